/- page.Of of a chain of one inner base. Written by gen_eb13.py. -/
import Derived.Test.YthpkbppaaagaoaaGreatMhI
import Derived.Test.YthpkbppaaagaoaaGreatEa13
namespace Go.Proofs.YthpkbppaaagaoaaGreat
open Go.RowKit Go.BigFrame
set_option maxRecDepth 100000
set_option linter.unusedVariables false
def OfPostI (n hs hg : Int) (w : World) (e : Ending) (w' : World) : Prop :=
  ∃ (V : Vw) (C : Option Addr) (nc x : Nat) (D : Option Addr) (nr y : Nat) (A : Option Addr) (c : Nat), e = .returned (.tuple #[.agg (pgA n hs hg (.slice C nc x) (.slice D nr y) false Lw.zero (.slice none 0 0) V (.slice A V.ents.length c)), .nilIface]) ∧ Fr none_ w w'
def OfCutI (n hs hg : Int) (w : World) (X : Nat) (u : Value) (wq : World) : Prop :=
  ∃ (V : Vw) (C : Option Addr) (nc x : Nat) (D : Option Addr) (nr y : Nat) (A : Option Addr) (c : Nat), u = .nilIface ∧ Blk wq X 140 (pgA n hs hg (.slice C nc x) (.slice D nr y) false Lw.zero (.slice none 0 0) V (.slice A V.ents.length c)) ∧ Blk wq (w.heap.size + 1) 140 pgZ ∧ Fr none_ w wq
/-- The page in its box, with the chain up to k. -/
structure OfStI (n hs hg : Int) (refs : List (Int × Int)) (w : World) (X k : Nat) (wr : World) : Prop where
  st : ∃ (vc vr : Value) (xs : List Value), Blk wr X 140 (pgA n hs hg vc vr false Lw.zero (.slice none 0 0) Vw.zero (.slice none 0 0)) ∧ wr.ownsRow w.heap.size 51 15 vc k xs ∧ wr.ownsRow w.heap.size 36 2 vr refs.length (rpFlat refs)
  bo : Blk wr (w.heap.size + 1) 140 pgZ
  fr : Fr none_ w wr
theorem OfStI.keep {n hs hg : Int} {refs : List (Int × Int)} {w w1 w2 : World} {X k : Nat} (h : OfStI n hs hg refs w X k w1) (hf : Fr none_ w1 w2) : OfStI n hs hg refs w X k w2 := by
  obtain ⟨vc, vr, xs, h3, h4, h6⟩ := h.st
  exact ⟨⟨vc, vr, xs, h3.fr hf id, own_none h4 hf, own_none h6 hf⟩, h.bo.fr hf id, h.fr.then_none hf⟩
set_option maxHeartbeats 8000000 in
theorem of_okI (n hs hg : Int) (A : Option Addr) (m cap : Nat) (L : List Ch) (refs : List (Int × Int)) (RA : Option Addr) (rc : Nat) (w : World) (h : ChReads w A m L) (hn : m = 1) (hs7 : ∀ C ∈ L, C.R.rows.length ≤ 1000 ∧ C.R.ents.length ≤ 500 ∧ C.R.kind = 7 ∧ Sound (baseV C.R)) (hr : Reads w 2 RA refs.length (rpFlat refs)) (hrl : refs.length ≤ 5000) :
    Calls Tryz.prog 100 #[.int .i64 n, .agg #[.int .i64 hs, .int .i64 hg], .slice A m cap, .slice RA refs.length rc] w (OfPostI n hs hg w) := by
  have HN1 := hid_ hn
  replace hn : m ≤ 400 := by omega
  obtain ⟨i0, hi0, hz0, hs0, hb0⟩ := info_parts pref_info
  have Hi := hid_ (And.intro hi0 (And.intro hz0 (And.intro hs0 hb0)))
  obtain ⟨j0, hj0, hy0, ht0, hc0⟩ := info_parts record_info
  have Hj := hid_ (And.intro hj0 (And.intro hy0 (And.intro ht0 hc0)))
  have hln := h.1
  obtain ⟨w0, hw0⟩ : ∃ z, z = (w.alloc (.cells #[.int .i64 hs, .int .i64 hg] 36)).alloc (.cells pgZ 140) := ⟨_, rfl⟩
  have f0 : Fr none_ w w0 := by rw [hw0]; exact ((Fr.refl none_ w).alloc _).alloc _
  have BH : Hid (Blk w0 w.heap.size 36 #[.int .i64 hs, .int .i64 hg]) := hid_ (by rw [hw0]; exact (Blk.new w _ _).alloc _)
  have BO : Hid (Blk w0 (w.heap.size + 1) 140 pgZ) := hid_ (by rw [hw0]; exact Blk.new7 _ _ (by simp))
  have F0 := hid_ f0
  have H := hid_ h
  have HS := hid_ hs7
  have HR := hid_ (hr.none_fr f0)
  have hsz0 := BO.out.lt
  clear h f0 hs7 hr hi0 hz0 hs0 hb0 hj0 hy0 ht0 hc0
  go_enter Tryz.func100, Tryz.ntmps100
  go_upto_region 1 with fail
  change Code.wp _ _ _ _ ((w.alloc (.cells #[.int .i64 hs, .int .i64 hg] 36)).alloc (.cells pgZ 140))
  rw [← hw0]
  clear hw0
  go_cut [10] (fun v wq => ∃ X, v = .pointer (some ⟨X, 0, none⟩) ∧ w.heap.size + 1 < X ∧ OfStI n hs hg refs w X 0 wq)
  case first =>
    have g0 : w0.cell? ⟨w.heap.size, 0, none⟩ = some (.int .i64 hs) := BH.out.cell' rfl
    have g1 : w0.cell? ⟨w.heap.size, 1, none⟩ = some (.int .i64 hg) := BH.out.cell' rfl
    have hS0 : (fun w' : World => Fr none_ w0 w') w0.drew := (Fr.refl none_ w0).drew
    refine wp_region_U (m := 7) (S := fun w' : World => Fr none_ w0 w') (by kernel_rfl) ?_
    refine wpAnyU_take2 (i := 0) (v := _) rfl (by kernel_rfl) (by kernel_rfl) (by kernel_rfl) (by kernel_rfl) (fun _ _ _ h => h) (.inl ⟨by kernel_rfl, fun w' hS => by have s_g0 := cellFr g0 hS; have s_g1 := cellFr g1 hS; go_simp; rfl⟩) hS0 ?_
    refine wpAnyU_take2 (i := 1) (v := _) rfl (by kernel_rfl) (by kernel_rfl) (by kernel_rfl) (by kernel_rfl) (fun _ _ _ h => h) (.inl ⟨by kernel_rfl, fun w' hS => by have s_g0 := cellFr g0 hS; have s_g1 := cellFr g1 hS; go_simp; rfl⟩) hS0 ?_
    refine wpAnyU_take2 (i := 3) (v := _) rfl (by kernel_rfl) (by kernel_rfl) (by kernel_rfl) (by kernel_rfl) (fun _ _ _ h => h) (.inl ⟨by kernel_rfl, fun w' hS => by have s_g0 := cellFr g0 hS; have s_g1 := cellFr g1 hS; go_simp; rfl⟩) hS0 ?_
    clear hS0 g0 g1
    refine wpAnyU_two7 (i := 2) (j := 6) rfl rfl (by kernel_rfl) (by kernel_rfl) (by kernel_rfl) ?_ ?_
    · go_simp
      refine ⟨(Fr.refl none_ w0).drew.alloc _, ?_⟩
      refine wpAnyU_two7 (i := 4) (j := 6) rfl rfl (by kernel_rfl) (by kernel_rfl) (by kernel_rfl) ?_ ?_
      · skip
        obtain ⟨w3, hw3⟩ : ∃ z, z = (w0.alloc (.cells #[] 36)).drew := ⟨_, rfl⟩
        have f3 : Fr none_ w0 w3 := by rw [hw3]; repeat (first | exact Fr.refl none_ w0 | apply Fr.drew | apply Fr.alloc)
        have O3 : w3.ownsRow w.heap.size 36 2 (.slice (some ⟨w0.heap.size, 0, none⟩) 0 0) 0 [] := by rw [hw3]; exact (own_empty_at w0 _ _ _ _ (by omega) rfl).drew
        have HB3 := hid_ (show w0.heap.size ≤ w0.heap.size by omega)
        change Oper.wp _ _ _ ((w0.alloc (.cells #[] 36)).drew) _ _
        rw [← hw3]
        refine wp_append_any _ (.tmp 17) (.tmp 18) 68 rfl w.heap.size 36 i0 _ 2 16 Tryz.underlying68 Hi.out.1 Hi.out.2.1 Hi.out.2.2.1 Hi.out.2.2.2 rfl (by omega) (.slice (some ⟨w0.heap.size, 0, none⟩) 0 0) 0 [] rfl O3 RA refs.length rc (rpFlat refs) rfl (HR.out.none_fr f3) (rpFlat_one _) (by simp only [maxLen]; omega) (by omega) (by have := f3.size; omega) ?_
        intro A' c' w4 hown hgr
        simp only [Nat.zero_add, List.nil_append] at hown ⊢
        have F4 : Fr none_ w0 w4 := f3.grown hgr (fun k hk => .inr (by simp [Value.ownBlock] at hk; have := HB3.out; omega))
        have hs4 := F4.size
        refine ⟨.inr F4, ?_⟩
        refine wpAnyU_take2 (i := 5) (v := _) rfl (by kernel_rfl) (by kernel_rfl) (by kernel_rfl) (by kernel_rfl) (fun _ _ _ h => h) (.inl ⟨by kernel_rfl, fun w' hS => by skip; go_simp; rfl⟩) F4 ?_
        refine wpAnyU_one7 (i := 6) rfl (by kernel_rfl) (by kernel_rfl) ?_
        go_simp
        obtain ⟨w5, hw5⟩ : ∃ z, z = w4.alloc (.cells pgZ 140) := ⟨_, rfl⟩
        have F5 : Fr none_ w0 w5 := by rw [hw5]; exact F4.alloc _
        have X5 : Blk w5 w4.heap.size 140 pgZ := by rw [hw5]; exact Blk.new w4 _ _
        have O5 := own_none hown (by rw [hw5]; exact (Fr.refl none_ w4).alloc (.cells pgZ 140) : Fr none_ w4 w5)
        rw [← hw5]
        refine ⟨F5, ?_⟩
        refine wpAnyU_one7 (i := 7) rfl (by kernel_rfl) (by kernel_rfl) ?_
        refine wp_store_mid 140 (.tmp 10) (.tmp 20) rfl (w4.heap.size) 0 (pgA n hs hg (.slice none 0 0) (.slice A' refs.length c') false Lw.zero (.slice none 0 0) Vw.zero (.slice none 0 0)) rfl rfl (X5.there7 rfl) page_size (by simp [Value.oneCell']) ?_
        refine ⟨.inl (by decide), ?_⟩
        refine wpAnyU_done (by kernel_rfl) ?_ _
        have ov := X5.over7 (pgA n hs hg (.slice none 0 0) (.slice A' refs.length c') false Lw.zero (.slice none 0 0) Vw.zero (.slice none 0 0)).toList rfl
        obtain ⟨w6, hw6⟩ : ∃ z, z = w5.setCells (w4.heap.size) 0 (pgA n hs hg (.slice none 0 0) (.slice A' refs.length c') false Lw.zero (.slice none 0 0) Vw.zero (.slice none 0 0)).toList := ⟨_, rfl⟩
        rw [← hw6] at ov
        rw [← hw6]
        have HST : Hid (OfStI n hs hg refs w (w4.heap.size) 0 w6) := hid_ ⟨⟨_, _, [], ov.1, World.ownsRow_nil _ _ _ _, own_fr O5 ov.2 (fun k hk e => own_blk_ne O5 X5 (by decide) (by rw [hk, show k = w4.heap.size from e]))⟩, ((BO.out.fr F5 id).fr ov.2 (only_ne (by omega))), (F0.out.then_none F5).then_only ov.2 (.inr (by omega))⟩
        clear hw6 ov
        go_wp2
        go_meet
        case rel => exact ⟨_, rfl, by omega, HST.out⟩
      · go_simp
        refine ⟨((Fr.refl none_ w0).drew.alloc _).alloc _, ?_⟩
        refine wpAnyU_one7 (i := 4) rfl (by kernel_rfl) (by kernel_rfl) ?_
        obtain ⟨w3, hw3⟩ : ∃ z, z = ((w0.alloc (.cells #[] 36)).alloc (.cells pgZ 140)).drew := ⟨_, rfl⟩
        have f3 : Fr none_ w0 w3 := by rw [hw3]; repeat (first | exact Fr.refl none_ w0 | apply Fr.drew | apply Fr.alloc)
        have hb0 := f3.size
        have O3 : w3.ownsRow w.heap.size 36 2 (.slice (some ⟨w0.heap.size, 0, none⟩) 0 0) 0 [] := by
          rw [hw3]
          exact ((own_empty_at w0 _ _ _ _ (by omega) rfl).alloc _).drew
        have HB3 := hid_ (show w0.heap.size ≤ w0.heap.size by omega)
        have X3 : Blk w3 (w0.heap.size + 1) 140 pgZ := by
          rw [hw3]
          exact (Blk.new7 (w := w0.alloc (.cells #[] 36)) _ _ (by simp)).drew
        change Oper.wp _ _ _ (((w0.alloc (.cells #[] 36)).alloc (.cells pgZ 140)).drew) _ _
        rw [← hw3]
        refine wp_append_any _ (.tmp 17) (.tmp 18) 68 rfl w.heap.size 36 i0 _ 2 16 Tryz.underlying68 Hi.out.1 Hi.out.2.1 Hi.out.2.2.1 Hi.out.2.2.2 rfl (by omega) (.slice (some ⟨w0.heap.size, 0, none⟩) 0 0) 0 [] rfl O3 RA refs.length rc (rpFlat refs) rfl (HR.out.none_fr f3) (rpFlat_one _) (by simp only [maxLen]; omega) (by omega) (by have := f3.size; omega) ?_
        intro A' c' w4 hown hgr
        simp only [Nat.zero_add, List.nil_append] at hown ⊢
        have F4 : Fr none_ w0 w4 := f3.grown hgr (fun k hk => .inr (by simp [Value.ownBlock] at hk; have := HB3.out; omega))
        have hs4 := F4.size
        have X4 : Blk w4 (w0.heap.size + 1) 140 pgZ := X3.fr (Fr.grown (S := fun b => (Value.slice (some ⟨w0.heap.size, 0, none⟩) 0 0).ownBlock = some b) (Fr.refl _ _) hgr (fun k hk => .inl hk)) (fun hk => by simp [Value.ownBlock] at hk)
        refine ⟨.inr F4, ?_⟩
        refine wpAnyU_take2 (i := 5) (v := _) rfl (by kernel_rfl) (by kernel_rfl) (by kernel_rfl) (by kernel_rfl) (fun _ _ _ h => h) (.inl ⟨by kernel_rfl, fun w' hS => by skip; go_simp; rfl⟩) F4 ?_
        refine wpAnyU_one7 (i := 7) rfl (by kernel_rfl) (by kernel_rfl) ?_
        refine wp_store_mid 140 (.tmp 10) (.tmp 20) rfl (w0.heap.size + 1) 0 (pgA n hs hg (.slice none 0 0) (.slice A' refs.length c') false Lw.zero (.slice none 0 0) Vw.zero (.slice none 0 0)) rfl rfl (X4.there7 rfl) page_size (by simp [Value.oneCell']) ?_
        refine ⟨.inl (by decide), ?_⟩
        refine wpAnyU_done (by kernel_rfl) ?_ _
        have ov := X4.over7 (pgA n hs hg (.slice none 0 0) (.slice A' refs.length c') false Lw.zero (.slice none 0 0) Vw.zero (.slice none 0 0)).toList rfl
        obtain ⟨w6, hw6⟩ : ∃ z, z = w4.setCells (w0.heap.size + 1) 0 (pgA n hs hg (.slice none 0 0) (.slice A' refs.length c') false Lw.zero (.slice none 0 0) Vw.zero (.slice none 0 0)).toList := ⟨_, rfl⟩
        rw [← hw6] at ov
        rw [← hw6]
        have HST : Hid (OfStI n hs hg refs w (w0.heap.size + 1) 0 w6) := hid_ ⟨⟨_, _, [], ov.1, World.ownsRow_nil _ _ _ _, own_fr hown ov.2 (fun k hk e => own_blk_ne hown X4 (by decide) (by rw [hk, show k = w0.heap.size + 1 from e]))⟩, ((BO.out.fr F4 id).fr ov.2 (only_ne (by omega))), (F0.out.then_none F4).then_only ov.2 (.inr (by omega))⟩
        clear hw6 ov
        go_wp2
        go_meet
        case rel => exact ⟨_, rfl, by omega, HST.out⟩
    · go_simp
      refine ⟨(Fr.refl none_ w0).drew.alloc _, ?_⟩
      refine wpAnyU_one7 (i := 2) rfl (by kernel_rfl) (by kernel_rfl) ?_
      go_simp
      refine ⟨((Fr.refl none_ w0).drew.alloc _).alloc _, ?_⟩
      refine wpAnyU_one7 (i := 4) rfl (by kernel_rfl) (by kernel_rfl) ?_
      obtain ⟨w3, hw3⟩ : ∃ z, z = ((w0.alloc (.cells pgZ 140)).alloc (.cells #[] 36)).drew := ⟨_, rfl⟩
      have f3 : Fr none_ w0 w3 := by rw [hw3]; repeat (first | exact Fr.refl none_ w0 | apply Fr.drew | apply Fr.alloc)
      have hb0 := f3.size
      have O3 : w3.ownsRow w.heap.size 36 2 (.slice (some ⟨w0.heap.size + 1, 0, none⟩) 0 0) 0 [] := by
        rw [hw3]
        exact (own_empty_at (w0.alloc (.cells pgZ 140)) _ _ _ _ (by simp; omega) (by simp)).drew
      have HB3 := hid_ (show w0.heap.size ≤ w0.heap.size + 1 by omega)
      have X3 : Blk w3 (w0.heap.size) 140 pgZ := by
        rw [hw3]
        exact ((Blk.new w0 _ _).alloc _).drew
      change Oper.wp _ _ _ (((w0.alloc (.cells pgZ 140)).alloc (.cells #[] 36)).drew) _ _
      rw [← hw3]
      refine wp_append_any _ (.tmp 17) (.tmp 18) 68 rfl w.heap.size 36 i0 _ 2 16 Tryz.underlying68 Hi.out.1 Hi.out.2.1 Hi.out.2.2.1 Hi.out.2.2.2 rfl (by omega) (.slice (some ⟨w0.heap.size + 1, 0, none⟩) 0 0) 0 [] rfl O3 RA refs.length rc (rpFlat refs) rfl (HR.out.none_fr f3) (rpFlat_one _) (by simp only [maxLen]; omega) (by omega) (by have := f3.size; omega) ?_
      intro A' c' w4 hown hgr
      simp only [Nat.zero_add, List.nil_append] at hown ⊢
      have F4 : Fr none_ w0 w4 := f3.grown hgr (fun k hk => .inr (by simp [Value.ownBlock] at hk; have := HB3.out; omega))
      have hs4 := F4.size
      have X4 : Blk w4 (w0.heap.size) 140 pgZ := X3.fr (Fr.grown (S := fun b => (Value.slice (some ⟨w0.heap.size + 1, 0, none⟩) 0 0).ownBlock = some b) (Fr.refl _ _) hgr (fun k hk => .inl hk)) (fun hk => by simp [Value.ownBlock] at hk)
      refine ⟨.inr F4, ?_⟩
      refine wpAnyU_take2 (i := 5) (v := _) rfl (by kernel_rfl) (by kernel_rfl) (by kernel_rfl) (by kernel_rfl) (fun _ _ _ h => h) (.inl ⟨by kernel_rfl, fun w' hS => by skip; go_simp; rfl⟩) F4 ?_
      refine wpAnyU_one7 (i := 7) rfl (by kernel_rfl) (by kernel_rfl) ?_
      refine wp_store_mid 140 (.tmp 10) (.tmp 20) rfl (w0.heap.size) 0 (pgA n hs hg (.slice none 0 0) (.slice A' refs.length c') false Lw.zero (.slice none 0 0) Vw.zero (.slice none 0 0)) rfl rfl (X4.there7 rfl) page_size (by simp [Value.oneCell']) ?_
      refine ⟨.inl (by decide), ?_⟩
      refine wpAnyU_done (by kernel_rfl) ?_ _
      have ov := X4.over7 (pgA n hs hg (.slice none 0 0) (.slice A' refs.length c') false Lw.zero (.slice none 0 0) Vw.zero (.slice none 0 0)).toList rfl
      obtain ⟨w6, hw6⟩ : ∃ z, z = w4.setCells (w0.heap.size) 0 (pgA n hs hg (.slice none 0 0) (.slice A' refs.length c') false Lw.zero (.slice none 0 0) Vw.zero (.slice none 0 0)).toList := ⟨_, rfl⟩
      rw [← hw6] at ov
      rw [← hw6]
      have HST : Hid (OfStI n hs hg refs w (w0.heap.size) 0 w6) := hid_ ⟨⟨_, _, [], ov.1, World.ownsRow_nil _ _ _ _, own_fr hown ov.2 (fun k hk e => own_blk_ne hown X4 (by decide) (by rw [hk, show k = w0.heap.size from e]))⟩, ((BO.out.fr F4 id).fr ov.2 (only_ne (by omega))), (F0.out.then_none F4).then_only ov.2 (.inr (by omega))⟩
      clear hw6 ov
      go_wp2
      go_meet
      case rel => exact ⟨_, rfl, by omega, HST.out⟩
  case rest =>
    obtain ⟨X, rfl, hX, hst⟩ := hcut
    have ST := hid_ hst
    clear hst
    clear BH BO F0 HR hsz0
    go_wp2_with fail
    go_loopw [23] (fun i wr => ∃ k : Nat, k ≤ m ∧ i = .int .i64 k ∧ OfStI n hs hg refs w X k wr) (fun i _ => m - (intOf i).toNat)
    case atStart => exact ⟨0, Nat.zero_le _, rfl, ST.out⟩
    case round =>
      obtain ⟨k, hk, rfl, hst⟩ := hrel
      have S2 := hid_ hst
      clear hst
      have hi0 : (0 : Int) ≤ (k : Int) := Int.natCast_nonneg _
      by_cases hlt : k < m
      · obtain ⟨E, hE⟩ : ∃ E, L[k]? = some E := ⟨_, List.getElem?_eq_getElem (by omega)⟩
        obtain ⟨b, off, rfl, hb, hR, hO⟩ := (H.out.keep S2.out.fr).at_ hE
        have hi1 : (k : Int) < (m : Int) := by omega
        have HR5 := hid_ hR
        have HO := hid_ hO
        have HEk := hid_ hE
        have hrow := (HS.out E (List.mem_of_getElem? hE)).1
        have hent := hO.ents.1
        clear hR hO hE
        go_upto_region 5 with (first | (refine wpList_load_mid rfl 51 (.tmp 25) rfl b (off + k * 15) rfl (recL E) _ HR5.out Tryz.underlying51 rfl rec_size8 ?_) | (refine wpList_store_mid rfl 51 (.tmp 12) (.tmp 26) rfl wr.heap.size 0 (recL E).toArray rfl rfl (new_there wr _ recZ8) rec_size8 (rec_one E) ?_; obtain ⟨w1, hw1⟩ : ∃ w1, w1 = (wr.alloc (.cells recZ8 51)).setCells wr.heap.size 0 (recL E) := ⟨_, rfl⟩; change wpList _ _ _ _ _ ((wr.alloc (.cells recZ8 51)).setCells wr.heap.size 0 (recL E)); rw [← hw1]; have P1 : Hid (Blk w1 wr.heap.size 51 (recL E).toArray ∧ Fr none_ wr w1) := hid_ (by rw [hw1]; exact new_copy wr _ recZ8 _ rfl); clear hw1))
        have S3 := hid_ (S2.out.keep P1.out.2)
        obtain ⟨vc, vr, xs, hbx, hown, hrf⟩ := S3.out.st
        obtain ⟨oA, oc, rfl⟩ := hown.shape
        have BX := hid_ hbx
        have O := hid_ hown
        have RF := hid_ hrf
        have hsf := S3.out.fr.size
        have hxl := hbx.lt
        clear hown hrf
        have x3 : w1.cell? ⟨X, 3, none⟩ = some (.slice oA k oc) := BX.out.cell' rfl
        clear hbx
        have hS0 : (fun w' : World => Fr none_ w1 w') w1.drew := (Fr.refl none_ w1).drew
        refine wp_region_U (m := 5) (S := fun w' : World => Fr none_ w1 w') (by kernel_rfl) ?_
        refine wpAnyU_take2 (i := 0) (v := _) rfl (by kernel_rfl) (by kernel_rfl) (by kernel_rfl) (by kernel_rfl) (fun _ _ _ h => h) (.inl ⟨by kernel_rfl, fun w' hS => by have s_x3 := cellFr x3 hS; go_simp; rfl⟩) hS0 ?_
        refine wpAnyU_take2 (i := 1) (v := _) rfl (by kernel_rfl) (by kernel_rfl) (by kernel_rfl) (by kernel_rfl) (fun _ _ _ h => h) (.inl ⟨by kernel_rfl, fun w' hS => by have s_x3 := cellFr x3 hS; go_simp; rfl⟩) hS0 ?_
        refine wpAnyU_take2 (i := 2) (v := _) rfl (by kernel_rfl) (by kernel_rfl) (by kernel_rfl) (by kernel_rfl) (fun _ _ _ h => h) (yieldsIf_load_mid (by kernel_rfl) 51 (.tmp 12) rfl wr.heap.size 0 rfl (recL E) _ (fun w' hS i v hv => cellFr (P1.out.1.range7 i v hv) hS) Tryz.underlying51 rfl rec_size8) hS0 ?_
        clear hS0 x3
        refine wpAnyU_one7 (i := 3) rfl (by kernel_rfl) (by kernel_rfl) ?_
        go_simp
        refine (clone_big E.R E.A E.c E.B E.d w1.drew ((HO.out.rd.keep P1.out.2).keep (Fr.refl none_ w1).drew) (by omega) hent).mono ?_
        rintro e w2 ⟨A1, c1, B1, d1, rfl, hro, hf2⟩
        have F2 : Hid (Fr none_ w1 w2) := hid_ ((Fr.refl none_ w1).drew.then_none hf2)
        have RO := hid_ (hro.base (show w.heap.size ≤ w1.drew.heap.size by have := S3.out.fr.size; have := P1.out.2.size; simp; omega))
        have O2 := hid_ (own_none O.out F2.out)
        have hs2 := F2.out.size
        clear hro hf2
        refine ⟨F2.out, ?_⟩
        refine wpAnyU_one7 (i := 4) rfl (by kernel_rfl) (by kernel_rfl) ?_
        go_simp
        refine ⟨F2.out.alloc _, ?_⟩
        refine wpAnyU_one7 (i := 5) rfl (by kernel_rfl) (by kernel_rfl) ?_
        refine wp_append_any _ (.tmp 28) (.tmp 31) 67 rfl w.heap.size 51 j0 _ 15 192 Tryz.underlying67 Hj.out.1 Hj.out.2.1 Hj.out.2.2.1 Hj.out.2.2.2 rfl (by omega) (.slice oA k oc) k xs rfl (O2.out.alloc _) (some ⟨w2.heap.size, 0, none⟩) 1 1 (recL ⟨E.R, A1, c1, B1, d1⟩) rfl (reads_new w2 _ (recL ⟨E.R, A1, c1, B1, d1⟩) _ rfl) (by simp [Value.oneCell']) (by simp only [maxLen]; omega) (by omega) (by simp; omega) ?_
        intro A3 c3 w3 hown3 hgr3
        refine ⟨.inl (by decide), ?_⟩
        have hf3 : Fr (fun q => (Value.slice oA k oc).ownBlock = some q) w2 w3 := ((Fr.refl _ w2).alloc (.cells (recL ⟨E.R, A1, c1, B1, d1⟩).toArray 51)).grown hgr3 (fun k hk => .inl hk)
        have BX3 : Hid (Blk w3 X 140 (pgA n hs hg (.slice oA k oc) vr false Lw.zero (.slice none 0 0) Vw.zero (.slice none 0 0))) := hid_ ((BX.out.fr F2.out id).fr hf3 (own_blk_ne O2.out (BX.out.fr F2.out id) (by decide)))
        have BO3 : Hid (Blk w3 (w.heap.size + 1) 140 pgZ) := hid_ ((S3.out.bo.fr F2.out id).fr hf3 (own_blk_ne O2.out (S3.out.bo.fr F2.out id) (by decide)))
        have FF3 : Hid (Fr none_ w w3) := hid_ ((S3.out.fr.then_none F2.out).trans hf3 (fun _ _ => id) (fun q hq e => absurd (O2.out.lt q e).1 (by omega)))
        have RF3 : Hid (w3.ownsRow w.heap.size 36 2 vr refs.length (rpFlat refs)) := hid_ (own_fr (own_none RF.out F2.out) hf3 (fun q hq e => own_own_ne (own_none RF.out F2.out) O2.out (by decide) q hq e))
        have O3 := hid_ hown3
        clear hown3 hgr3 hf3
        have x3 : w3.cell? ⟨X, 3, none⟩ = some (.slice oA k oc) := BX3.out.cell' rfl
        have y3 := BX3.out.frozen 3
        refine wpAnyU_one7 (i := 6) rfl (by kernel_rfl) (by kernel_rfl) ?_
        go_simp
        refine wpAnyU_one7 (i := 7) rfl (by kernel_rfl) (by kernel_rfl) ?_
        go_simp
        refine wpAnyU_done (by kernel_rfl) ?_ _
        clear x3 y3
        obtain ⟨w4, hw4⟩ : ∃ z, z = w3.setCell ⟨X, 3, none⟩ (.slice A3 (k + 1) c3) := ⟨_, rfl⟩
        have f4 : Fr (only X) w3 w4 := by rw [hw4]; exact Fr.only1 w3 ⟨X, 3, none⟩ _
        have S4 : Hid (OfStI n hs hg refs w X (k + 1) w4) := hid_ ⟨⟨_, vr, _, by rw [hw4]; exact BX3.out.set_ 3 _, own_fr O3.out f4 (fun q hq e => own_blk_ne O3.out BX3.out (by decide) (by rw [hq, show q = X from e])), own_fr RF3.out f4 (fun q hq e => own_blk_ne RF3.out BX3.out (by decide) (by rw [hq, show q = X from e]))⟩, BO3.out.fr f4 (only_ne (by omega)), FF3.out.then_only f4 (.inr (by omega))⟩
        rw [← hw4]
        clear hw4 f4
        go_wp2_with fail
        go_roundw
        case rel => exact ⟨k + 1, by omega, by go_num, S4.out⟩
        case measure => simp [intOf]; omega
      · obtain rfl : k = m := by omega
        clear hlt hi0 ST
        go_upto_region 9 with fail
        go_cut [47] (fun u wq => u = .bool false ∧ Fr none_ wr wq)
        case first =>
          obtain ⟨j, rfl⟩ : ∃ j, k = j + 1 := ⟨k - 1, by have := HN1.out; omega⟩
          obtain ⟨E, hE⟩ : ∃ E, L[j]? = some E := ⟨_, List.getElem?_eq_getElem (by omega)⟩
          obtain ⟨b, off, rfl, hb, hR, hO⟩ := (H.out.keep S2.out.fr).at_ hE
          have k0 : wr.cell? ⟨b, off + j * 15, none⟩ = some (.int .i64 7) := by rw [← (HS.out E (List.mem_of_getElem? hE)).2.2.1]; exact hR 0 _ rfl
          have hi1 : (j : Int) < ((j + 1 : Nat) : Int) := by omega
          have hi2 : (j : Int) < (j : Int) + 1 := by omega
          have hi3 : (0 : Int) ≤ (j : Int) := Int.natCast_nonneg _
          have hp0 : decide ((0 : Int) < ((j + 1 : Nat) : Int)) = true := decide_eq_true (by omega)
          have hp1 : decide ((0 : Int) < (j : Int) + 1) = true := decide_eq_true (by omega)
          have hw1 : IntKind.i64.wrap ((j : Int) + 1 - 1) = (j : Int) := by rw [show (j : Int) + 1 - 1 = (j : Int) by omega]; exact IntWalk.i64_in _ (by omega)
          clear hE hR hO
          go_wp2_with fail
          go_meet
          case rel => exact ⟨rfl, Fr.refl _ _⟩
        case rest =>
          obtain ⟨rfl, hf⟩ := hcut
          have S3 := hid_ (S2.out.keep hf)
          clear hf S2
          go_upto_if 47 with fail
          go_cut [13] (fun u wq => OfCutI n hs hg w X u wq)
          case rest =>
            obtain ⟨V0, C1, nc, x1, D1, nr, y1, A1, c1, hu, hbx, hbo, hfr⟩ := hcut
            subst hu
            have BO5 := hid_ hbo
            have F5 := hid_ hfr
            have BX5 := hid_ hbx
            clear hbo hfr hbx S3
            go_wp2_with (first | (refine wpList_load_mid rfl 140 (.tmp 10) rfl X 0 rfl (pgA n hs hg (.slice C1 nc x1) (.slice D1 nr y1) false Lw.zero (.slice none 0 0) V0 (.slice A1 V0.ents.length c1)).toList _ (Blk.range7 (l := (pgA n hs hg (.slice C1 nc x1) (.slice D1 nr y1) false Lw.zero (.slice none 0 0) V0 (.slice A1 V0.ents.length c1)).toList) BX5.out) Tryz.underlying140 rfl page_size ?_) | (refine wpList_store_mid rfl 140 (.tmp 8) (.tmp 65) rfl (w.heap.size + 1) 0 (pgA n hs hg (.slice C1 nc x1) (.slice D1 nr y1) false Lw.zero (.slice none 0 0) V0 (.slice A1 V0.ents.length c1)) rfl rfl (BO5.out.there7 rfl) page_size (by simp [Value.oneCell']) ?_; have ov := BO5.out.over7 (pgA n hs hg (.slice C1 nc x1) (.slice D1 nr y1) false Lw.zero (.slice none 0 0) V0 (.slice A1 V0.ents.length c1)).toList rfl; obtain ⟨w6, hw6⟩ : ∃ z, z = wc.setCells (w.heap.size + 1) 0 (pgA n hs hg (.slice C1 nc x1) (.slice D1 nr y1) false Lw.zero (.slice none 0 0) V0 (.slice A1 V0.ents.length c1)).toList := ⟨_, rfl⟩; rw [← hw6] at ov; change wpList _ _ _ _ _ (wc.setCells (w.heap.size + 1) 0 (pgA n hs hg (.slice C1 nc x1) (.slice D1 nr y1) false Lw.zero (.slice none 0 0) V0 (.slice A1 V0.ents.length c1)).toList); rw [← hw6]; have OV := hid_ ov; clear hw6 ov))
            refine bodyPost_ret (results_cell_tmp7 _ _ rfl (w.heap.size + 1) 0 (pgA n hs hg (.slice C1 nc x1) (.slice D1 nr y1) false Lw.zero (.slice none 0 0) V0 (.slice A1 V0.ents.length c1)).toList _ rfl (Blk.range7 (l := (pgA n hs hg (.slice C1 nc x1) (.slice D1 nr y1) false Lw.zero (.slice none 0 0) V0 (.slice A1 V0.ents.length c1)).toList) OV.out.1) Tryz.underlying140 rfl page_size) rfl ⟨V0, C1, nc, x1, D1, nr, y1, A1, c1, rfl, F5.out.then_only OV.out.2 (.inr (by omega))⟩
          case first =>
            obtain ⟨vc, vr, xs, hbx, hown, hrf⟩ := S3.out.st
            obtain ⟨C1, x1, rfl⟩ := hown.shape
            obtain ⟨D1, y1, rfl⟩ := hrf.shape
            have BX1 := hid_ hbx
            have BO1 := hid_ S3.out.bo
            have FF1 := hid_ S3.out.fr
            have hxl := hbx.lt
            have hsz1 := S3.out.fr.size
            clear hbx hown hrf
            go_wp2_with fail
            refine (foldI_ok A k cap L wc (H.out.keep FF1.out) HN1.out (fun C hC => (HS.out C hC).2)).mono ?_
            rintro e w2 ⟨V, A', c', rfl, hf2⟩
            have F2 := hid_ (FF1.out.then_none hf2)
            have BX2 := hid_ (BX1.out.fr hf2 id)
            have BO2 := hid_ (BO1.out.fr hf2 id)
            clear hf2
            have x12 : w2.cell? ⟨X, 12, none⟩ = some (.string nilS) := BX2.out.cell' rfl
            have y12 := BX2.out.frozen 12
            have x13 : w2.cell? ⟨X, 13, none⟩ = some (.string nilS) := BX2.out.cell' rfl
            have y13 := BX2.out.frozen 13
            have x14 : w2.cell? ⟨X, 14, none⟩ = some (.bool false) := BX2.out.cell' rfl
            have y14 := BX2.out.frozen 14
            have x15 : w2.cell? ⟨X, 15, none⟩ = some (.int .i64 0) := BX2.out.cell' rfl
            have y15 := BX2.out.frozen 15
            have x16 : w2.cell? ⟨X, 16, none⟩ = some (.slice none 0 0) := BX2.out.cell' rfl
            have y16 := BX2.out.frozen 16
            have x17 : w2.cell? ⟨X, 17, none⟩ = some (.bool false) := BX2.out.cell' rfl
            have y17 := BX2.out.frozen 17
            have x18 : w2.cell? ⟨X, 18, none⟩ = some (.int .i64 0) := BX2.out.cell' rfl
            have y18 := BX2.out.frozen 18
            have x19 : w2.cell? ⟨X, 19, none⟩ = some (.int .i64 0) := BX2.out.cell' rfl
            have y19 := BX2.out.frozen 19
            have x20 : w2.cell? ⟨X, 20, none⟩ = some (.string nilS) := BX2.out.cell' rfl
            have y20 := BX2.out.frozen 20
            go_wp2_with fail
            clear x12 y12 x13 y13 x14 y14 x15 y15 x16 y16 x17 y17 x18 y18 x19 y19 x20 y20
            obtain ⟨w5, hw5⟩ : ∃ z, z = (((((((((w2.setCell ⟨X, 12, none⟩ (.string V.low)).setCell ⟨X, 13, none⟩ (.string V.high)).setCell ⟨X, 14, none⟩ (.bool V.unb)).setCell ⟨X, 15, none⟩ (.int .i64 V.right)).setCell ⟨X, 16, none⟩ (.slice A' V.ents.length c')).setCell ⟨X, 17, none⟩ (.bool V.held)).setCell ⟨X, 18, none⟩ (.int .i64 V.hp)).setCell ⟨X, 19, none⟩ (.int .i64 V.hl)).setCell ⟨X, 20, none⟩ (.string V.hk)) := ⟨_, rfl⟩
            have f5 : Fr (only X) w2 w5 := by rw [hw5]; exact frOnly7 (frOnly7 (frOnly7 (frOnly7 (frOnly7 (frOnly7 (frOnly7 (frOnly7 (frOnly7 (Fr.refl (only X) w2) _) _) _) _) _) _) _) _) _
            have BX5 : Blk w5 X 140 (pgA n hs hg (.slice C1 k x1) (.slice D1 refs.length y1) false Lw.zero (.slice none 0 0) V (.slice A' V.ents.length c')) := by
              rw [hw5]
              have e := (((((((((BX2.out.set_ 12 (.string V.low)).set_ 13 (.string V.high)).set_ 14 (.bool V.unb)).set_ 15 (.int .i64 V.right)).set_ 16 (.slice A' V.ents.length c')).set_ 17 (.bool V.held)).set_ 18 (.int .i64 V.hp)).set_ 19 (.int .i64 V.hl)).set_ 20 (.string V.hk))
              simp only [List.setIfInBounds_toArray, List.set_cons_zero, List.set_cons_succ] at e
              exact e
            have HP5 : Hid (OfCutI n hs hg w X .nilIface w5) := hid_ ⟨V, _, _, _, _, _, _, _, _, rfl, BX5, BO2.out.fr f5 (only_ne (by omega)), F2.out.then_only f5 (.inr (by omega))⟩
            rw [← hw5]
            clear hw5 f5 BX5
            go_meet
            case rel => exact HP5.out
end Go.Proofs.YthpkbppaaagaoaaGreat

/- inner.Grow by contract. Written by gen_grow8.py. -/
import Derived.Test.YtfoljojacakkeaaDoorOver8
namespace Go.Proofs.YtfoljojacakkeaaDoor
open Go.RowKit Go.BigFrame Go.ChangeShapes Go.WideShapes
set_option maxRecDepth 100000
set_option linter.unusedVariables false

/-- What Grow tells: the two halves' bases, and the top's. -/
def GrowPost (V : Vw) (left right : Int) (w : World) (e : Ending) (w' : World) : Prop :=
  (∃ k, NoHalf V k ∧ e = .returned (.tuple #[recV Rc.zero (.slice none 0 0) (.slice none 0 0), recV Rc.zero (.slice none 0 0) (.slice none 0 0), recV Rc.zero (.slice none 0 0) (.slice none 0 0), errV k]) ∧ Fr none_ w w') ∨
  (∃ (q : Et) (L R T : Vw) (A1 A2 A3 : Option Addr) (c1 c2 c3 : Nat), V.held = false ∧ 2 ≤ V.ents.length ∧ V.ents[V.ents.length / 2]? = some q ∧
    L = leftV V (V.ents.length / 2) q.1 right ∧ R = rightV V (V.ents.length / 2) q.1 ∧ T = topV V q.1 left right ∧
    e = .returned (.tuple #[recV (baseR L) (.slice none 0 0) (.slice A1 L.ents.length c1), recV (baseR R) (.slice none 0 0) (.slice A2 R.ents.length c2), recV (baseR T) (.slice none 0 0) (.slice A3 T.ents.length c3), .nilIface]) ∧
    w'.ownsRow w.heap.size 60 2 (.slice A1 L.ents.length c1) L.ents.length (etFlat L.ents) ∧
    w'.ownsRow w.heap.size 60 2 (.slice A2 R.ents.length c2) R.ents.length (etFlat R.ents) ∧
    w'.ownsRow w.heap.size 60 2 (.slice A3 T.ents.length c3) T.ents.length (etFlat T.ents) ∧ L.Ok ∧ R.Ok ∧ T.Ok ∧ Fr none_ w w')
theorem left_right {w : World} {V : Vw} {n : Nat} {k : ByteArray} {r : Int} {A : Option Addr} {c : Nat} (r' : Int) (h : VwIn w (leftV V n k r) A c) : VwIn w (leftV V n k r') A c := ⟨h.rd, h.cap, h.capm, ⟨h.ok.low, h.ok.high, h.ok.hk, h.ok.ents⟩⟩
theorem top_in {w : World} {V : Vw} {k : ByteArray} {l r : Int} {g : Nat} (hV : V.Ok) (hk : SzOk k) (h : Blk w g 60 #[.string V.low, .int .i64 l, .string k, .int .i64 r]) : VwIn w (topV V k l r) (some ⟨g, 0, none⟩) 2 := by
  refine ⟨⟨rfl, fun _ => ⟨_, rfl, fun j u hu => ?_⟩⟩, Nat.le_refl _, by show 2 ≤ maxLen; decide, ⟨hV.low, hV.high, hV.hk, ⟨by show 2 ≤ 1000; decide, fun p hp => ?_⟩⟩⟩
  · rw [add_lit, Nat.zero_add]
    exact h.cell' (by simpa [topV, etFlat, etCells] using hu)
  · have hp : p ∈ [(V.low, l), (k, r)] := hp
    simp only [List.mem_cons, List.not_mem_nil, or_false] at hp
    rcases hp with rfl | rfl
    · exact hV.low
    · exact hk
set_option maxHeartbeats 16000000 in
theorem grow_ok (V : Vw) (left right : Int) (A : Option Addr) (c : Nat) (w : World) (h : VwIn w V A c) :
    Calls Tryd.prog 34 #[vwV V (.slice A V.ents.length c), .int .i64 left, .int .i64 right] w (GrowPost V left right w) := by
  obtain ⟨w0, hw0⟩ : ∃ z, z = (((w.alloc (.cells (vwA V (.slice A V.ents.length c)) 57)).alloc (.cells (recA Rc.zero (.slice none 0 0) (.slice none 0 0)) 40)).alloc (.cells (recA Rc.zero (.slice none 0 0) (.slice none 0 0)) 40)).alloc (.cells (recA Rc.zero (.slice none 0 0) (.slice none 0 0)) 40) := ⟨_, rfl⟩
  have f0 : Fr none_ w w0 := by rw [hw0]; exact ((((Fr.refl none_ w).alloc _).alloc _).alloc _).alloc _
  have BV : Hid (Blk w0 w.heap.size 57 (vwA V (.slice A V.ents.length c))) := hid_ (by rw [hw0]; exact (((Blk.new w _ _).alloc _).alloc _).alloc _)
  have B1 : Hid (Blk w0 (w.heap.size + 1) 40 (recA Rc.zero (.slice none 0 0) (.slice none 0 0))) := hid_ (by rw [hw0]; exact ((Blk.new_at _ _ (by simp)).alloc _).alloc _)
  have B2 : Hid (Blk w0 (w.heap.size + 1 + 1) 40 (recA Rc.zero (.slice none 0 0) (.slice none 0 0))) := hid_ (by rw [hw0]; exact (Blk.new_at _ _ (by simp)).alloc _)
  have B3 : Hid (Blk w0 (w.heap.size + 1 + 1 + 1) 40 (recA Rc.zero (.slice none 0 0) (.slice none 0 0))) := hid_ (by rw [hw0]; exact Blk.new_at _ _ (by simp))
  have H := hid_ (h.keep f0)
  have F := hid_ f0
  have hvo := h.ok
  have HVO := hid_ hvo
  have hsz : w.heap.size + 1 + 1 + 1 < w0.heap.size := B3.out.lt
  clear h f0 hvo
  have v0 : w0.cell? ⟨w.heap.size, 0, none⟩ = some (.string V.low) := BV.out.cell' rfl
  have v1 : w0.cell? ⟨w.heap.size, 1, none⟩ = some (.string V.high) := BV.out.cell' rfl
  have v2 : w0.cell? ⟨w.heap.size, 2, none⟩ = some (.bool V.unb) := BV.out.cell' rfl
  have v3 : w0.cell? ⟨w.heap.size, 3, none⟩ = some (.int .i64 V.right) := BV.out.cell' rfl
  have v4 : w0.cell? ⟨w.heap.size, 4, none⟩ = some (.slice A V.ents.length c) := BV.out.cell' rfl
  have v5 : w0.cell? ⟨w.heap.size, 5, none⟩ = some (.bool V.held) := BV.out.cell' rfl
  have v6 : w0.cell? ⟨w.heap.size, 6, none⟩ = some (.int .i64 V.hp) := BV.out.cell' rfl
  have v7 : w0.cell? ⟨w.heap.size, 7, none⟩ = some (.int .i64 V.hl) := BV.out.cell' rfl
  have v8 : w0.cell? ⟨w.heap.size, 8, none⟩ = some (.string V.hk) := BV.out.cell' rfl
  rw [hw0] at v0 v1 v2 v3 v4 v5 v6 v7 v8
  go_enter Tryd.func34, Tryd.ntmps34
  go_wp2_with fail
  change Calls _ _ _ ((((w.alloc (.cells (vwA V (.slice A V.ents.length c)) 57)).alloc (.cells (recA Rc.zero (.slice none 0 0) (.slice none 0 0)) 40)).alloc (.cells (recA Rc.zero (.slice none 0 0) (.slice none 0 0)) 40)).alloc (.cells (recA Rc.zero (.slice none 0 0) (.slice none 0 0)) 40)) _
  rw [← hw0]
  clear hw0
  clear v0 v1 v2 v3 v4 v5 v6 v7 v8
  refine (halves_ok2 V A c _ H.out).mono ?_
  rintro e w1 (⟨k, hk, rfl, hf1⟩ | ⟨q, A1, A2, c1, c2, hh, h2, hq, rfl, hL, hR, hf1⟩)
  · skip
    replace B1 := hid_ (B1.out.fr hf1 id)
    replace B2 := hid_ (B2.out.fr hf1 id)
    replace B3 := hid_ (B3.out.fr hf1 id)
    replace BV := hid_ (BV.out.fr hf1 id)
    replace F := hid_ (F.out.then_none hf1)
    have hs1 := hf1.size
    clear hf1
    have HK := hid_ hk
    have hk0 := hk.ne
    clear hk
    go_upto_region 2 with fail
    obtain ⟨w2, hw2⟩ : ∃ z, z = (w1.alloc (.cells (vwA Vw.zero (.slice none 0 0)) 57)).alloc (.cells (vwA Vw.zero (.slice none 0 0)) 57) := ⟨_, rfl⟩
    have f2 : Fr none_ w1 w2 := by rw [hw2]; exact ((Fr.refl none_ w1).alloc _).alloc _
    replace B1 := hid_ (B1.out.fr f2 id)
    replace B2 := hid_ (B2.out.fr f2 id)
    replace B3 := hid_ (B3.out.fr f2 id)
    replace BV := hid_ (BV.out.fr f2 id)
    replace F := hid_ (F.out.then_none f2)
    change Code.wp _ _ _ _ ((w1.alloc (.cells (vwA Vw.zero (.slice none 0 0)) 57)).alloc (.cells (vwA Vw.zero (.slice none 0 0)) 57))
    rw [← hw2]
    have hs2 := f2.size
    clear hw2 f2
    go_wp2_with (first | (refine wpList_store_mid rfl 40 (.tmp 6) (.tmp 22) rfl (w.heap.size + 1) 0 (recL ⟨Rc.zero, none, 0, none, 0⟩).toArray rfl rfl (B1.out.there0 rfl) rec_size8 (rec_one ⟨Rc.zero, none, 0, none, 0⟩) ?_; obtain ⟨wz0, hwz0⟩ : ∃ z, z = w2.setCells (w.heap.size + 1) 0 (recL ⟨Rc.zero, none, 0, none, 0⟩) := ⟨_, rfl⟩; have ovwz0 := Blk.over B1.out (recL ⟨Rc.zero, none, 0, none, 0⟩) rfl; rw [← hwz0] at ovwz0; change wpList _ _ _ _ _ (w2.setCells (w.heap.size + 1) 0 (recL ⟨Rc.zero, none, 0, none, 0⟩)); rw [← hwz0]; clear hwz0; replace B1 := hid_ ovwz0.1; replace B2 := hid_ (B2.out.fr ovwz0.2 (only_ne (by omega))); replace B3 := hid_ (B3.out.fr ovwz0.2 (only_ne (by omega))); replace F := hid_ (F.out.then_only ovwz0.2 (.inr (by omega))); clear ovwz0) | (refine wpList_store_mid rfl 40 (.tmp 7) (.tmp 23) rfl (w.heap.size + 1 + 1) 0 (recL ⟨Rc.zero, none, 0, none, 0⟩).toArray rfl rfl (B2.out.there0 rfl) rec_size8 (rec_one ⟨Rc.zero, none, 0, none, 0⟩) ?_; obtain ⟨wz1, hwz1⟩ : ∃ z, z = wz0.setCells (w.heap.size + 1 + 1) 0 (recL ⟨Rc.zero, none, 0, none, 0⟩) := ⟨_, rfl⟩; have ovwz1 := Blk.over B2.out (recL ⟨Rc.zero, none, 0, none, 0⟩) rfl; rw [← hwz1] at ovwz1; change wpList _ _ _ _ _ (wz0.setCells (w.heap.size + 1 + 1) 0 (recL ⟨Rc.zero, none, 0, none, 0⟩)); rw [← hwz1]; clear hwz1; replace B2 := hid_ ovwz1.1; replace B1 := hid_ (B1.out.fr ovwz1.2 (only_ne (by omega))); replace B3 := hid_ (B3.out.fr ovwz1.2 (only_ne (by omega))); replace F := hid_ (F.out.then_only ovwz1.2 (.inr (by omega))); clear ovwz1) | (refine wpList_store_mid rfl 40 (.tmp 8) (.tmp 24) rfl (w.heap.size + 1 + 1 + 1) 0 (recL ⟨Rc.zero, none, 0, none, 0⟩).toArray rfl rfl (B3.out.there0 rfl) rec_size8 (rec_one ⟨Rc.zero, none, 0, none, 0⟩) ?_; obtain ⟨wz2, hwz2⟩ : ∃ z, z = wz1.setCells (w.heap.size + 1 + 1 + 1) 0 (recL ⟨Rc.zero, none, 0, none, 0⟩) := ⟨_, rfl⟩; have ovwz2 := Blk.over B3.out (recL ⟨Rc.zero, none, 0, none, 0⟩) rfl; rw [← hwz2] at ovwz2; change wpList _ _ _ _ _ (wz1.setCells (w.heap.size + 1 + 1 + 1) 0 (recL ⟨Rc.zero, none, 0, none, 0⟩)); rw [← hwz2]; clear hwz2; replace B3 := hid_ ovwz2.1; replace B1 := hid_ (B1.out.fr ovwz2.2 (only_ne (by omega))); replace B2 := hid_ (B2.out.fr ovwz2.2 (only_ne (by omega))); replace F := hid_ (F.out.then_only ovwz2.2 (.inr (by omega))); clear ovwz2))
    have r0 := B1.out.cell' (i := 0) rfl
    have s0 := B2.out.cell' (i := 0) rfl
    have t0 := B3.out.cell' (i := 0) rfl
    have r1 := B1.out.cell' (i := 1) rfl
    have s1 := B2.out.cell' (i := 1) rfl
    have t1 := B3.out.cell' (i := 1) rfl
    have r2 := B1.out.cell' (i := 2) rfl
    have s2 := B2.out.cell' (i := 2) rfl
    have t2 := B3.out.cell' (i := 2) rfl
    have r3 := B1.out.cell' (i := 3) rfl
    have s3 := B2.out.cell' (i := 3) rfl
    have t3 := B3.out.cell' (i := 3) rfl
    have r4 := B1.out.cell' (i := 4) rfl
    have s4 := B2.out.cell' (i := 4) rfl
    have t4 := B3.out.cell' (i := 4) rfl
    have r5 := B1.out.cell' (i := 5) rfl
    have s5 := B2.out.cell' (i := 5) rfl
    have t5 := B3.out.cell' (i := 5) rfl
    have r6 := B1.out.cell' (i := 6) rfl
    have s6 := B2.out.cell' (i := 6) rfl
    have t6 := B3.out.cell' (i := 6) rfl
    have r7 := B1.out.cell' (i := 7) rfl
    have s7 := B2.out.cell' (i := 7) rfl
    have t7 := B3.out.cell' (i := 7) rfl
    have r8 := B1.out.cell' (i := 8) rfl
    have s8 := B2.out.cell' (i := 8) rfl
    have t8 := B3.out.cell' (i := 8) rfl
    have r9 := B1.out.cell' (i := 9) rfl
    have s9 := B2.out.cell' (i := 9) rfl
    have t9 := B3.out.cell' (i := 9) rfl
    have r10 := B1.out.cell' (i := 10) rfl
    have s10 := B2.out.cell' (i := 10) rfl
    have t10 := B3.out.cell' (i := 10) rfl
    have r11 := B1.out.cell' (i := 11) rfl
    have s11 := B2.out.cell' (i := 11) rfl
    have t11 := B3.out.cell' (i := 11) rfl
    have r12 := B1.out.cell' (i := 12) rfl
    have s12 := B2.out.cell' (i := 12) rfl
    have t12 := B3.out.cell' (i := 12) rfl
    have r13 := B1.out.cell' (i := 13) rfl
    have s13 := B2.out.cell' (i := 13) rfl
    have t13 := B3.out.cell' (i := 13) rfl
    have r14 := B1.out.cell' (i := 14) rfl
    have s14 := B2.out.cell' (i := 14) rfl
    have t14 := B3.out.cell' (i := 14) rfl
    refine bodyPost_ret (v := .tuple #[recV Rc.zero (.slice none 0 0) (.slice none 0 0), recV Rc.zero (.slice none 0 0) (.slice none 0 0), recV Rc.zero (.slice none 0 0) (.slice none 0 0), errV k]) ?_ rfl (.inl ⟨k, HK.out, rfl, F.out⟩)
    simp [results, Tryd.results34, go_sem, Rc.zero, r0, s0, t0, r1, s1, t1, r2, s2, t2, r3, s3, t3, r4, s4, t4, r5, s5, t5, r6, s6, t6, r7, s7, t7, r8, s8, t8, r9, s9, t9, r10, s10, t10, r11, s11, t11, r12, s12, t12, r13, s13, t13, r14, s14, t14]
  · skip
    have RI := hid_ hR
    have LI := hid_ (left_right right hL)
    replace B1 := hid_ (B1.out.fr hf1 id)
    replace B2 := hid_ (B2.out.fr hf1 id)
    replace B3 := hid_ (B3.out.fr hf1 id)
    replace BV := hid_ (BV.out.fr hf1 id)
    replace F := hid_ (F.out.then_none hf1)
    have hs1 := hf1.size
    have HQ := hid_ (And.intro hh (And.intro h2 hq))
    have hsq : SzOk q.1 := HVO.out.ents.2 q (List.mem_of_getElem? hq)
    have HSQ := hid_ hsq
    clear hsq
    skip
    obtain ⟨RV, hRV⟩ : ∃ X, X = rightV V (V.ents.length / 2) q.1 := ⟨_, rfl⟩
    obtain ⟨LV, hLV⟩ : ∃ X, X = leftV V (V.ents.length / 2) q.1 V.right := ⟨_, rfl⟩
    obtain ⟨MV, hMV⟩ : ∃ X, X = leftV V (V.ents.length / 2) q.1 right := ⟨_, rfl⟩
    have hlow : RV.low = q.1 := by rw [hRV]; rfl
    have hml : MV = { LV with right := right } := by rw [hMV, hLV]; rfl
    rw [← hRV] at RI ⊢
    rw [← hMV] at LI
    rw [← hLV]
    have HRV := hid_ (And.intro hRV (And.intro hlow (And.intro hMV hml)))
    clear hL hR hf1 hh h2 hq hRV hLV hMV hlow hml
    have LI1 := LI
    have RI1 := RI
    have F1 := hid_ (Fr.refl none_ w1)
    go_upto_region 2 with fail
    obtain ⟨w2, hw2⟩ : ∃ z, z = (w1.alloc (.cells (vwA LV (.slice A1 LV.ents.length c1)) 57)).alloc (.cells (vwA RV (.slice A2 RV.ents.length c2)) 57) := ⟨_, rfl⟩
    have f2 : Fr none_ w1 w2 := by rw [hw2]; exact ((Fr.refl none_ w1).alloc _).alloc _
    replace B1 := hid_ (B1.out.fr f2 id)
    replace B2 := hid_ (B2.out.fr f2 id)
    replace B3 := hid_ (B3.out.fr f2 id)
    replace BV := hid_ (BV.out.fr f2 id)
    replace F := hid_ (F.out.then_none f2)
    replace RI := hid_ (RI.out.keep f2)
    replace LI := hid_ (LI.out.keep f2)
    replace F1 := hid_ (F1.out.then_none f2)
    change Code.wp _ _ _ _ ((w1.alloc (.cells (vwA LV (.slice A1 LV.ents.length c1)) 57)).alloc (.cells (vwA RV (.slice A2 RV.ents.length c2)) 57))
    rw [← hw2]
    have hs2 := f2.size
    have BL : Hid (Blk w2 w1.heap.size 57 (vwA LV (.slice A1 LV.ents.length c1))) := hid_ (by rw [hw2]; exact (Blk.new w1 _ _).alloc _)
    have BR : Hid (Blk w2 (w1.heap.size + 1) 57 (vwA RV (.slice A2 RV.ents.length c2))) := hid_ (by rw [hw2]; exact Blk.new_at _ _ (by simp))
    clear hw2 f2
    have v0 : w2.cell? ⟨w.heap.size, 0, none⟩ = some (.string V.low) := BV.out.cell' rfl
    have v1 : w2.cell? ⟨w.heap.size, 1, none⟩ = some (.string V.high) := BV.out.cell' rfl
    have v2 : w2.cell? ⟨w.heap.size, 2, none⟩ = some (.bool V.unb) := BV.out.cell' rfl
    have v3 : w2.cell? ⟨w.heap.size, 3, none⟩ = some (.int .i64 V.right) := BV.out.cell' rfl
    have v4 : w2.cell? ⟨w.heap.size, 4, none⟩ = some (.slice A V.ents.length c) := BV.out.cell' rfl
    have v5 : w2.cell? ⟨w.heap.size, 5, none⟩ = some (.bool V.held) := BV.out.cell' rfl
    have v6 : w2.cell? ⟨w.heap.size, 6, none⟩ = some (.int .i64 V.hp) := BV.out.cell' rfl
    have v7 : w2.cell? ⟨w.heap.size, 7, none⟩ = some (.int .i64 V.hl) := BV.out.cell' rfl
    have v8 : w2.cell? ⟨w.heap.size, 8, none⟩ = some (.string V.hk) := BV.out.cell' rfl
    have l3 : w2.cell? ⟨w1.heap.size, 3, none⟩ = some (.int .i64 LV.right) := BL.out.cell' rfl
    have fl3 := BL.out.frozen 3
    have rl : w2.cell? ⟨w1.heap.size + 1, 0, none⟩ = some (.string RV.low) := BR.out.cell' rfl
    have hbl := BL.out.lt
    have hbr := BR.out.lt
    have hbv := BV.out.lt
    go_upto_region 7 with fail
    clear v0 v1 v2 v3 v4 v5 v6 v7 v8
    clear l3 fl3 rl
    obtain ⟨w3, hw3⟩ : ∃ z, z = ((w2.setCell ⟨w1.heap.size, 3, none⟩ (.int .i64 right)).alloc (.cells (vwA (topV V RV.low left right) (.slice (some ⟨w2.heap.size + 1, 0, none⟩) (topV V RV.low left right).ents.length 2)) 57)).alloc (.cells #[.string V.low, .int .i64 left, .string RV.low, .int .i64 right] 60) := ⟨_, rfl⟩
    have fs := Fr.only1 w2 ⟨w1.heap.size, 3, none⟩ (.int .i64 right)
    have fa : Fr none_ (w2.setCell ⟨w1.heap.size, 3, none⟩ (.int .i64 right)) w3 := by rw [hw3]; exact ((Fr.refl none_ _).alloc _).alloc _
    have BM : Hid (Blk w3 w1.heap.size 57 (vwA MV (.slice A1 MV.ents.length c1))) := hid_ (by rw [HRV.out.2.2.2]; exact (BL.out.set_ 3 _).fr fa id)
    have BT : Hid (Blk w3 w2.heap.size 57 (vwA (topV V RV.low left right) (.slice (some ⟨w2.heap.size + 1, 0, none⟩) (topV V RV.low left right).ents.length 2))) := hid_ (by rw [hw3]; exact (Blk.new_at _ _ (by simp)).alloc _)
    have BE : Hid (Blk w3 (w2.heap.size + 1) 60 #[.string V.low, .int .i64 left, .string RV.low, .int .i64 right]) := hid_ (by rw [hw3]; exact Blk.new_at _ _ (by simp))
    replace B1 := hid_ ((B1.out.fr fs (only_ne (show w.heap.size + 1 ≠ w1.heap.size by omega))).fr fa id)
    replace B2 := hid_ ((B2.out.fr fs (only_ne (show w.heap.size + 1 + 1 ≠ w1.heap.size by omega))).fr fa id)
    replace B3 := hid_ ((B3.out.fr fs (only_ne (show w.heap.size + 1 + 1 + 1 ≠ w1.heap.size by omega))).fr fa id)
    replace BR := hid_ ((BR.out.fr fs (only_ne (show w1.heap.size + 1 ≠ w1.heap.size by omega))).fr fa id)
    replace F := hid_ ((F.out.then_only fs (.inr (show w.heap.size ≤ w1.heap.size by omega))).then_none fa)
    replace F1 := hid_ ((F1.out.then_only fs (.inr (Nat.le_refl _))).then_none fa)
    have MI := hid_ (LI1.out.keep F1.out)
    replace RI := hid_ (RI1.out.keep F1.out)
    have TI : Hid (VwIn w3 (topV V RV.low left right) (some ⟨w2.heap.size + 1, 0, none⟩) 2) := hid_ (top_in HVO.out (by rw [HRV.out.2.1]; exact HSQ.out) BE.out)
    obtain ⟨TV, hTV⟩ : ∃ X, X = topV V RV.low left right := ⟨_, rfl⟩
    change Code.wp _ _ _ _ (((w2.setCell ⟨w1.heap.size, 3, none⟩ (.int .i64 right)).alloc (.cells (vwA (topV V RV.low left right) (.slice (some ⟨w2.heap.size + 1, 0, none⟩) (topV V RV.low left right).ents.length 2)) 57)).alloc (.cells #[.string V.low, .int .i64 left, .string RV.low, .int .i64 right] 60))
    rw [← hw3]
    rw [← hTV] at BT TI
    have HTV := hid_ hTV
    clear hw3 fs fa BL LI LI1 RI1 BV hTV BE
    have v0 : w3.cell? ⟨w1.heap.size, 0, none⟩ = some (.string MV.low) := BM.out.cell' rfl
    have v1 : w3.cell? ⟨w1.heap.size, 1, none⟩ = some (.string MV.high) := BM.out.cell' rfl
    have v2 : w3.cell? ⟨w1.heap.size, 2, none⟩ = some (.bool MV.unb) := BM.out.cell' rfl
    have v3 : w3.cell? ⟨w1.heap.size, 3, none⟩ = some (.int .i64 MV.right) := BM.out.cell' rfl
    have v4 : w3.cell? ⟨w1.heap.size, 4, none⟩ = some (.slice A1 MV.ents.length c1) := BM.out.cell' rfl
    have v5 : w3.cell? ⟨w1.heap.size, 5, none⟩ = some (.bool MV.held) := BM.out.cell' rfl
    have v6 : w3.cell? ⟨w1.heap.size, 6, none⟩ = some (.int .i64 MV.hp) := BM.out.cell' rfl
    have v7 : w3.cell? ⟨w1.heap.size, 7, none⟩ = some (.int .i64 MV.hl) := BM.out.cell' rfl
    have v8 : w3.cell? ⟨w1.heap.size, 8, none⟩ = some (.string MV.hk) := BM.out.cell' rfl
    have u0 : w3.cell? ⟨w1.heap.size + 1, 0, none⟩ = some (.string RV.low) := BR.out.cell' rfl
    have u1 : w3.cell? ⟨w1.heap.size + 1, 1, none⟩ = some (.string RV.high) := BR.out.cell' rfl
    have u2 : w3.cell? ⟨w1.heap.size + 1, 2, none⟩ = some (.bool RV.unb) := BR.out.cell' rfl
    have u3 : w3.cell? ⟨w1.heap.size + 1, 3, none⟩ = some (.int .i64 RV.right) := BR.out.cell' rfl
    have u4 : w3.cell? ⟨w1.heap.size + 1, 4, none⟩ = some (.slice A2 RV.ents.length c2) := BR.out.cell' rfl
    have u5 : w3.cell? ⟨w1.heap.size + 1, 5, none⟩ = some (.bool RV.held) := BR.out.cell' rfl
    have u6 : w3.cell? ⟨w1.heap.size + 1, 6, none⟩ = some (.int .i64 RV.hp) := BR.out.cell' rfl
    have u7 : w3.cell? ⟨w1.heap.size + 1, 7, none⟩ = some (.int .i64 RV.hl) := BR.out.cell' rfl
    have u8 : w3.cell? ⟨w1.heap.size + 1, 8, none⟩ = some (.string RV.hk) := BR.out.cell' rfl
    have o0 : w3.cell? ⟨w2.heap.size, 0, none⟩ = some (.string TV.low) := BT.out.cell' rfl
    have o1 : w3.cell? ⟨w2.heap.size, 1, none⟩ = some (.string TV.high) := BT.out.cell' rfl
    have o2 : w3.cell? ⟨w2.heap.size, 2, none⟩ = some (.bool TV.unb) := BT.out.cell' rfl
    have o3 : w3.cell? ⟨w2.heap.size, 3, none⟩ = some (.int .i64 TV.right) := BT.out.cell' rfl
    have o4 : w3.cell? ⟨w2.heap.size, 4, none⟩ = some (.slice (some ⟨w2.heap.size + 1, 0, none⟩) TV.ents.length 2) := BT.out.cell' rfl
    have o5 : w3.cell? ⟨w2.heap.size, 5, none⟩ = some (.bool TV.held) := BT.out.cell' rfl
    have o6 : w3.cell? ⟨w2.heap.size, 6, none⟩ = some (.int .i64 TV.hp) := BT.out.cell' rfl
    have o7 : w3.cell? ⟨w2.heap.size, 7, none⟩ = some (.int .i64 TV.hl) := BT.out.cell' rfl
    have o8 : w3.cell? ⟨w2.heap.size, 8, none⟩ = some (.string TV.hk) := BT.out.cell' rfl
    have hS0 : (fun w' : World => Fr none_ w3 w') w3.drew := (Fr.refl none_ w3).drew
    refine wp_region_U (m := 6) (S := fun w' : World => Fr none_ w3 w') (by kernel_rfl) ?_
    refine wpAnyU_take2 (i := 0) (v := _) rfl (by kernel_rfl) (by kernel_rfl) (by kernel_rfl) (by kernel_rfl) (fun _ _ _ h => h) (.inl ⟨by simp [Region.wanted], fun w' hS => by have s_v0 := cellFr v0 hS; have s_v1 := cellFr v1 hS; have s_v2 := cellFr v2 hS; have s_v3 := cellFr v3 hS; have s_v4 := cellFr v4 hS; have s_v5 := cellFr v5 hS; have s_v6 := cellFr v6 hS; have s_v7 := cellFr v7 hS; have s_v8 := cellFr v8 hS; go_simp; rfl⟩) hS0 ?_
    refine wpAnyU_take2 (i := 2) (v := _) rfl (by kernel_rfl) (by kernel_rfl) (by kernel_rfl) (by kernel_rfl) (fun _ _ _ h => h) (.inl ⟨by simp [Region.wanted], fun w' hS => by have s_u0 := cellFr u0 hS; have s_u1 := cellFr u1 hS; have s_u2 := cellFr u2 hS; have s_u3 := cellFr u3 hS; have s_u4 := cellFr u4 hS; have s_u5 := cellFr u5 hS; have s_u6 := cellFr u6 hS; have s_u7 := cellFr u7 hS; have s_u8 := cellFr u8 hS; go_simp; rfl⟩) hS0 ?_
    refine wpAnyU_take2 (i := 4) (v := _) rfl (by kernel_rfl) (by kernel_rfl) (by kernel_rfl) (by kernel_rfl) (fun _ _ _ h => h) (.inl ⟨by simp [Region.wanted], fun w' hS => by have s_o0 := cellFr o0 hS; have s_o1 := cellFr o1 hS; have s_o2 := cellFr o2 hS; have s_o3 := cellFr o3 hS; have s_o4 := cellFr o4 hS; have s_o5 := cellFr o5 hS; have s_o6 := cellFr o6 hS; have s_o7 := cellFr o7 hS; have s_o8 := cellFr o8 hS; go_simp; rfl⟩) hS0 ?_
    clear v0 v1 v2 v3 v4 v5 v6 v7 v8
    clear u0 u1 u2 u3 u4 u5 u6 u7 u8
    clear o0 o1 o2 o3 o4 o5 o6 o7 o8
    refine wpAnyU_one (i := 1) rfl rfl (by kernel_rfl) ?_
    go_simp
    refine (base_ok MV A1 c1 _ (MI.out.keep (Fr.refl none_ w3).drew)).mono ?_
    rintro e w4 ⟨X0, x0, rfl, ho, hf⟩
    have O0 := hid_ (own_base (base' := w.heap.size) ho (by first | (have := F.out.size; exact this) | (simp; have := F.out.size; omega)))
    have hg := (Fr.refl none_ w3).drew.then_none hf
    replace B1 := hid_ (B1.out.fr hg id)
    replace B2 := hid_ (B2.out.fr hg id)
    replace B3 := hid_ (B3.out.fr hg id)
    replace F := hid_ (F.out.then_none hg)
    replace F1 := hid_ (F1.out.then_none hg)
    replace BR := hid_ (BR.out.fr hg id)
    replace BM := hid_ (BM.out.fr hg id)
    replace BT := hid_ (BT.out.fr hg id)
    replace MI := hid_ (MI.out.keep hg)
    replace RI := hid_ (RI.out.keep hg)
    replace TI := hid_ (TI.out.keep hg)
    have FS := hid_ hg
    refine ⟨FS.out, ?_⟩
    clear ho hf hg
    refine wpAnyU_one (i := 3) rfl rfl (by kernel_rfl) ?_
    go_simp
    refine (base_ok RV A2 c2 _ (RI.out)).mono ?_
    rintro e w5 ⟨X1, x1, rfl, ho, hf⟩
    have O1 := hid_ (own_base (base' := w.heap.size) ho (by first | (have := F.out.size; exact this) | (simp; have := F.out.size; omega)))
    have hg := hf
    replace B1 := hid_ (B1.out.fr hg id)
    replace B2 := hid_ (B2.out.fr hg id)
    replace B3 := hid_ (B3.out.fr hg id)
    replace F := hid_ (F.out.then_none hg)
    replace F1 := hid_ (F1.out.then_none hg)
    replace BR := hid_ (BR.out.fr hg id)
    replace BM := hid_ (BM.out.fr hg id)
    replace BT := hid_ (BT.out.fr hg id)
    replace MI := hid_ (MI.out.keep hg)
    replace RI := hid_ (RI.out.keep hg)
    replace TI := hid_ (TI.out.keep hg)
    replace O0 := hid_ (own_none O0.out hg)
    replace FS := hid_ (FS.out.then_none hg)
    refine ⟨FS.out, ?_⟩
    clear ho hf hg
    refine wpAnyU_one (i := 5) rfl rfl (by kernel_rfl) ?_
    go_simp
    refine (base_ok TV (some ⟨w2.heap.size + 1, 0, none⟩) 2 _ (TI.out)).mono ?_
    rintro e w6 ⟨X2, x2, rfl, ho, hf⟩
    have O2 := hid_ (own_base (base' := w.heap.size) ho (by first | (have := F.out.size; exact this) | (simp; have := F.out.size; omega)))
    have hg := hf
    replace B1 := hid_ (B1.out.fr hg id)
    replace B2 := hid_ (B2.out.fr hg id)
    replace B3 := hid_ (B3.out.fr hg id)
    replace F := hid_ (F.out.then_none hg)
    replace F1 := hid_ (F1.out.then_none hg)
    replace BR := hid_ (BR.out.fr hg id)
    replace BM := hid_ (BM.out.fr hg id)
    replace BT := hid_ (BT.out.fr hg id)
    replace MI := hid_ (MI.out.keep hg)
    replace RI := hid_ (RI.out.keep hg)
    replace TI := hid_ (TI.out.keep hg)
    replace O0 := hid_ (own_none O0.out hg)
    replace O1 := hid_ (own_none O1.out hg)
    replace FS := hid_ (FS.out.then_none hg)
    refine ⟨FS.out, ?_⟩
    clear ho hf hg
    have hfs := FS.out.size
    have PB1 := B1
    have PB2 := B2
    have PB3 := B3
    refine wpAnyU_one (i := 6) rfl rfl (by kernel_rfl) ?_
    refine wp_store_mid 40 (.tmp 6) (.tmp 40) rfl (w.heap.size + 1) 0 (recL ⟨baseR MV, none, 0, X0, x0⟩).toArray rfl rfl (B1.out.there0 rfl) rec_size8 (rec_one ⟨baseR MV, none, 0, X0, x0⟩) ?_
    refine ⟨.inl (by decide), ?_⟩
    obtain ⟨wz0, hwz0⟩ : ∃ z, z = w6.setCells (w.heap.size + 1) 0 (recL ⟨baseR MV, none, 0, X0, x0⟩) := ⟨_, rfl⟩
    have ovwz0 := Blk.over B1.out (recL ⟨baseR MV, none, 0, X0, x0⟩) rfl
    rw [← hwz0] at ovwz0
    change wpAnyU _ _ _ _ _ _ _ _ _ (w6.setCells (w.heap.size + 1) 0 (recL ⟨baseR MV, none, 0, X0, x0⟩))
    rw [← hwz0]
    clear hwz0
    replace B1 := hid_ ovwz0.1
    replace B2 := hid_ (B2.out.fr ovwz0.2 (only_ne (by omega)))
    replace B3 := hid_ (B3.out.fr ovwz0.2 (only_ne (by omega)))
    replace F := hid_ (F.out.then_only ovwz0.2 (.inr (by omega)))
    skip
    skip
    skip
    refine wpAnyU_one (i := 7) rfl rfl (by kernel_rfl) ?_
    refine wp_store_mid 40 (.tmp 7) (.tmp 42) rfl (w.heap.size + 1 + 1) 0 (recL ⟨baseR RV, none, 0, X1, x1⟩).toArray rfl rfl (B2.out.there0 rfl) rec_size8 (rec_one ⟨baseR RV, none, 0, X1, x1⟩) ?_
    refine ⟨.inl (by decide), ?_⟩
    obtain ⟨wz1, hwz1⟩ : ∃ z, z = wz0.setCells (w.heap.size + 1 + 1) 0 (recL ⟨baseR RV, none, 0, X1, x1⟩) := ⟨_, rfl⟩
    have ovwz1 := Blk.over B2.out (recL ⟨baseR RV, none, 0, X1, x1⟩) rfl
    rw [← hwz1] at ovwz1
    change wpAnyU _ _ _ _ _ _ _ _ _ (wz0.setCells (w.heap.size + 1 + 1) 0 (recL ⟨baseR RV, none, 0, X1, x1⟩))
    rw [← hwz1]
    clear hwz1
    replace B2 := hid_ ovwz1.1
    replace B1 := hid_ (B1.out.fr ovwz1.2 (only_ne (by omega)))
    replace B3 := hid_ (B3.out.fr ovwz1.2 (only_ne (by omega)))
    replace F := hid_ (F.out.then_only ovwz1.2 (.inr (by omega)))
    skip
    skip
    skip
    refine wpAnyU_one (i := 8) rfl rfl (by kernel_rfl) ?_
    refine wp_store_mid 40 (.tmp 8) (.tmp 44) rfl (w.heap.size + 1 + 1 + 1) 0 (recL ⟨baseR TV, none, 0, X2, x2⟩).toArray rfl rfl (B3.out.there0 rfl) rec_size8 (rec_one ⟨baseR TV, none, 0, X2, x2⟩) ?_
    refine ⟨.inl (by decide), ?_⟩
    obtain ⟨wz2, hwz2⟩ : ∃ z, z = wz1.setCells (w.heap.size + 1 + 1 + 1) 0 (recL ⟨baseR TV, none, 0, X2, x2⟩) := ⟨_, rfl⟩
    have ovwz2 := Blk.over B3.out (recL ⟨baseR TV, none, 0, X2, x2⟩) rfl
    rw [← hwz2] at ovwz2
    change wpAnyU _ _ _ _ _ _ _ _ _ (wz1.setCells (w.heap.size + 1 + 1 + 1) 0 (recL ⟨baseR TV, none, 0, X2, x2⟩))
    rw [← hwz2]
    clear hwz2
    replace B3 := hid_ ovwz2.1
    replace B1 := hid_ (B1.out.fr ovwz2.2 (only_ne (by omega)))
    replace B2 := hid_ (B2.out.fr ovwz2.2 (only_ne (by omega)))
    replace F := hid_ (F.out.then_only ovwz2.2 (.inr (by omega)))
    skip
    skip
    skip
    refine wpAnyU_one (i := 9) rfl rfl (by kernel_rfl) ?_
    go_simp
    refine wpAnyU_done (by kernel_rfl) ?_ _
    go_wp2_with fail
    have HOK := hid_ (And.intro MI.out.ok (And.intro RI.out.ok TI.out.ok))
    have r0 := B1.out.cell' (i := 0) rfl
    have s0 := B2.out.cell' (i := 0) rfl
    have t0 := B3.out.cell' (i := 0) rfl
    have r1 := B1.out.cell' (i := 1) rfl
    have s1 := B2.out.cell' (i := 1) rfl
    have t1 := B3.out.cell' (i := 1) rfl
    have r2 := B1.out.cell' (i := 2) rfl
    have s2 := B2.out.cell' (i := 2) rfl
    have t2 := B3.out.cell' (i := 2) rfl
    have r3 := B1.out.cell' (i := 3) rfl
    have s3 := B2.out.cell' (i := 3) rfl
    have t3 := B3.out.cell' (i := 3) rfl
    have r4 := B1.out.cell' (i := 4) rfl
    have s4 := B2.out.cell' (i := 4) rfl
    have t4 := B3.out.cell' (i := 4) rfl
    have r5 := B1.out.cell' (i := 5) rfl
    have s5 := B2.out.cell' (i := 5) rfl
    have t5 := B3.out.cell' (i := 5) rfl
    have r6 := B1.out.cell' (i := 6) rfl
    have s6 := B2.out.cell' (i := 6) rfl
    have t6 := B3.out.cell' (i := 6) rfl
    have r7 := B1.out.cell' (i := 7) rfl
    have s7 := B2.out.cell' (i := 7) rfl
    have t7 := B3.out.cell' (i := 7) rfl
    have r8 := B1.out.cell' (i := 8) rfl
    have s8 := B2.out.cell' (i := 8) rfl
    have t8 := B3.out.cell' (i := 8) rfl
    have r9 := B1.out.cell' (i := 9) rfl
    have s9 := B2.out.cell' (i := 9) rfl
    have t9 := B3.out.cell' (i := 9) rfl
    have r10 := B1.out.cell' (i := 10) rfl
    have s10 := B2.out.cell' (i := 10) rfl
    have t10 := B3.out.cell' (i := 10) rfl
    have r11 := B1.out.cell' (i := 11) rfl
    have s11 := B2.out.cell' (i := 11) rfl
    have t11 := B3.out.cell' (i := 11) rfl
    have r12 := B1.out.cell' (i := 12) rfl
    have s12 := B2.out.cell' (i := 12) rfl
    have t12 := B3.out.cell' (i := 12) rfl
    have r13 := B1.out.cell' (i := 13) rfl
    have s13 := B2.out.cell' (i := 13) rfl
    have t13 := B3.out.cell' (i := 13) rfl
    have r14 := B1.out.cell' (i := 14) rfl
    have s14 := B2.out.cell' (i := 14) rfl
    have t14 := B3.out.cell' (i := 14) rfl
    refine bodyPost_ret (v := .tuple #[recV (baseR MV) (.slice none 0 0) (.slice X0 MV.ents.length x0), recV (baseR RV) (.slice none 0 0) (.slice X1 RV.ents.length x1), recV (baseR TV) (.slice none 0 0) (.slice X2 TV.ents.length x2), .nilIface]) ?_ rfl (.inr ⟨q, MV, RV, TV, X0, X1, X2, x0, x1, x2, HQ.out.1, HQ.out.2.1, HQ.out.2.2, HRV.out.2.2.1, HRV.out.1, by rw [HTV.out, HRV.out.2.1], rfl, ?_, ?_, ?_, HOK.out.1, HOK.out.2.1, HOK.out.2.2, F.out⟩)
    · simp [results, Tryd.results34, go_sem, baseR, Rc.zero, r0, s0, t0, r1, s1, t1, r2, s2, t2, r3, s3, t3, r4, s4, t4, r5, s5, t5, r6, s6, t6, r7, s7, t7, r8, s8, t8, r9, s9, t9, r10, s10, t10, r11, s11, t11, r12, s12, t12, r13, s13, t13, r14, s14, t14]
    · exact own_fr (own_fr (own_fr O0.out ovwz0.2 (fun k hk e => own_blk_ne O0.out PB1.out (by decide) (by rw [hk, show k = w.heap.size + 1 from e]))) ovwz1.2 (fun k hk e => own_blk_ne O0.out PB2.out (by decide) (by rw [hk, show k = w.heap.size + 1 + 1 from e]))) ovwz2.2 (fun k hk e => own_blk_ne O0.out PB3.out (by decide) (by rw [hk, show k = w.heap.size + 1 + 1 + 1 from e]))
    · exact own_fr (own_fr (own_fr O1.out ovwz0.2 (fun k hk e => own_blk_ne O1.out PB1.out (by decide) (by rw [hk, show k = w.heap.size + 1 from e]))) ovwz1.2 (fun k hk e => own_blk_ne O1.out PB2.out (by decide) (by rw [hk, show k = w.heap.size + 1 + 1 from e]))) ovwz2.2 (fun k hk e => own_blk_ne O1.out PB3.out (by decide) (by rw [hk, show k = w.heap.size + 1 + 1 + 1 from e]))
    · exact own_fr (own_fr (own_fr O2.out ovwz0.2 (fun k hk e => own_blk_ne O2.out PB1.out (by decide) (by rw [hk, show k = w.heap.size + 1 from e]))) ovwz1.2 (fun k hk e => own_blk_ne O2.out PB2.out (by decide) (by rw [hk, show k = w.heap.size + 1 + 1 from e]))) ovwz2.2 (fun k hk e => own_blk_ne O2.out PB3.out (by decide) (by rw [hk, show k = w.heap.size + 1 + 1 + 1 from e]))
end Go.Proofs.YtfoljojacakkeaaDoor

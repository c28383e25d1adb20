/- InnerBuilds' walk. Written by gen_blds8.py. -/
import Derived.Test.YtfoljojacakkeaaDoorDocE8
import Derived.Test.YtfoljojacakkeaaDoorAsksI8
import Derived.Test.YtfoljojacakkeaaDoorSame4
namespace Go.Proofs.YtfoljojacakkeaaDoor
open Go.RowKit Go.BigFrame Go.ChangeShapes Go.WideShapes
set_option maxRecDepth 100000
set_option linter.unusedVariables false

theorem Blk.range8 {w : World} {g : Nat} {t : TypeId} {cs : List Value} (h : Blk w g t cs.toArray) : w.rangeAt g 0 cs := fun j v hj => by
  rw [Nat.zero_add]
  exact h.cell' (by simpa using hj)
set_option maxHeartbeats 40000000 in
theorem blds8_walk (V : Vw) (A : Option Addr) (c : Nat) (left right : Int) (w : World) (h : VwAny w V A c) (hL : Laid w) :
    Calls Tryd.prog 6 #[vwV V (.slice A V.ents.length c), .int .i64 left, .int .i64 right] w fun e w' => e = .returned (.bool true) ∧ Fr none_ w w' := by
  have H := hid_ h
  have HLd := hid_ hL
  have F := hid_ (Fr.refl none_ w)
  clear h hL
  go_enter Tryd.func6, Tryd.ntmps6
  go_upto_region 1 with fail
  obtain ⟨w0, hw0⟩ : ∃ z, z = w.alloc (.cells (vwA V (.slice A V.ents.length c)) 52) := ⟨_, rfl⟩
  have fw0 : Fr none_ w w0 := by rw [hw0]; exact (Fr.refl none_ w).alloc _
  have BV : Hid (Blk w0 w.heap.size 52 (vwA V (.slice A V.ents.length c))) := hid_ (by rw [hw0]; exact Blk.new w _ _)
  replace H := hid_ (H.out.keep fw0)
  replace F := hid_ (F.out.then_none fw0)
  replace HLd := hid_ (HLd.out.fr fw0 id)
  change Code.wp _ _ _ _ (w.alloc (.cells (vwA V (.slice A V.ents.length c)) 52))
  rw [← hw0]
  clear hw0 fw0
  have v0 : w0.cell? ⟨w.heap.size, 0, none⟩ = some (.string V.low) := BV.out.cell' rfl
  have v1 : w0.cell? ⟨w.heap.size, 1, none⟩ = some (.string V.high) := BV.out.cell' rfl
  have v2 : w0.cell? ⟨w.heap.size, 2, none⟩ = some (.bool V.unb) := BV.out.cell' rfl
  have v3 : w0.cell? ⟨w.heap.size, 3, none⟩ = some (.int .i64 V.right) := BV.out.cell' rfl
  have v4 : w0.cell? ⟨w.heap.size, 4, none⟩ = some (.slice A V.ents.length c) := BV.out.cell' rfl
  have v5 : w0.cell? ⟨w.heap.size, 5, none⟩ = some (.bool V.held) := BV.out.cell' rfl
  have v6 : w0.cell? ⟨w.heap.size, 6, none⟩ = some (.int .i64 V.hp) := BV.out.cell' rfl
  have v7 : w0.cell? ⟨w.heap.size, 7, none⟩ = some (.int .i64 V.hl) := BV.out.cell' rfl
  have v8 : w0.cell? ⟨w.heap.size, 8, none⟩ = some (.string V.hk) := BV.out.cell' rfl
  go_wp2_with fail
  refine (rbase_ok V A c _).mono ?_
  rintro e w1 ⟨rfl, hf1⟩
  replace H := hid_ (H.out.keep hf1)
  replace F := hid_ (F.out.then_none hf1)
  replace BV := hid_ (BV.out.fr hf1 id)
  replace HLd := hid_ (HLd.out.fr hf1 id)
  clear hf1
  clear v0 v1 v2 v3 v4 v5 v6 v7 v8
  go_wp2_with fail
  obtain ⟨w2, hw2⟩ : ∃ z, z = w1.alloc (.cells (recL (baseC V A c)).toArray 40) := ⟨_, rfl⟩
  have fw2 : Fr none_ w1 w2 := by rw [hw2]; exact (Fr.refl none_ w1).alloc _
  have BB : Hid (Blk w2 w1.heap.size 40 ((recL (baseC V A c)).toArray)) := hid_ (by rw [hw2]; exact Blk.new w1 _ _)
  replace H := hid_ (H.out.keep fw2)
  replace F := hid_ (F.out.then_none fw2)
  replace BV := hid_ (BV.out.fr fw2 id)
  replace HLd := hid_ (HLd.out.fr fw2 id)
  change Calls _ _ _ (w1.alloc (.cells (recL (baseC V A c)).toArray 40)) _
  rw [← hw2]
  clear hw2 fw2
  refine (few8_ok (some ⟨w1.heap.size, 0, none⟩) 1 1 [baseC V A c] _ (base_in H.out BB.out) (by decide)).mono ?_
  rintro e w3 ⟨b, rfl, hb, hf3⟩
  have HB := hid_ hb
  replace H := hid_ (H.out.keep hf3)
  replace F := hid_ (F.out.then_none hf3)
  replace BV := hid_ (BV.out.fr hf3 id)
  replace BB := hid_ (BB.out.fr hf3 id)
  replace HLd := hid_ (HLd.out.fr hf3 id)
  clear hb hf3 BB
  cases b with
  | false =>
    go_wp2_with fail
    refine (awake8 _).mono ?_
    rintro e w9 ⟨rfl, hf9⟩
    have F9 := hid_ (F.out.then_none hf9)
    clear hf9
    go_wp2_with fail
    go_ret
    exact ⟨rfl, F9.out⟩
  | true =>
    have h100 : V.ents.length ≤ 100 := (HB.out rfl).2 0 _ rfl
    clear HB
    have v8 : w3.cell? ⟨w.heap.size, 8, none⟩ = some (.string V.hk) := BV.out.cell' rfl
    by_cases hg : (100 : Int) < (V.hk.size : Int)
    · have hd2 : decide ((100 : Int) < (V.hk.size : Int)) = true := by simpa using hg
      clear hg
      go_wp2_with fail
      refine (awake8 _).mono ?_
      rintro e w9 ⟨rfl, hf9⟩
      have F9 := hid_ (F.out.then_none hf9)
      clear hf9
      go_wp2_with fail
      go_ret
      exact ⟨rfl, F9.out⟩
    have hd2 : decide ((100 : Int) < (V.hk.size : Int)) = false := by simpa using hg
    clear hg
    have VI := hid_ (H.out.vin h100)
    have v0 : w3.cell? ⟨w.heap.size, 0, none⟩ = some (.string V.low) := BV.out.cell' rfl
    have v1 : w3.cell? ⟨w.heap.size, 1, none⟩ = some (.string V.high) := BV.out.cell' rfl
    have v2 : w3.cell? ⟨w.heap.size, 2, none⟩ = some (.bool V.unb) := BV.out.cell' rfl
    have v3 : w3.cell? ⟨w.heap.size, 3, none⟩ = some (.int .i64 V.right) := BV.out.cell' rfl
    have v4 : w3.cell? ⟨w.heap.size, 4, none⟩ = some (.slice A V.ents.length c) := BV.out.cell' rfl
    have v5 : w3.cell? ⟨w.heap.size, 5, none⟩ = some (.bool V.held) := BV.out.cell' rfl
    have v6 : w3.cell? ⟨w.heap.size, 6, none⟩ = some (.int .i64 V.hp) := BV.out.cell' rfl
    have v7 : w3.cell? ⟨w.heap.size, 7, none⟩ = some (.int .i64 V.hl) := BV.out.cell' rfl
    go_wp2_with fail
    refine (given_ok V A c _ VI.out).mono ?_
    rintro e w5 ⟨A2, c2, rfl, hown, hf5⟩
    obtain ⟨A2', c2', e2, hcap2, hcapm2, -⟩ := own_parts hown
    cases e2
    have X5 : Hid (VwIn w5 V A2 c2) := hid_ ⟨Reads.of_own hown, hcap2, hcapm2, VI.out.ok⟩
    replace H := hid_ (H.out.keep hf5)
    replace F := hid_ (F.out.then_none hf5)
    replace BV := hid_ (BV.out.fr hf5 id)
    replace VI := hid_ (VI.out.keep hf5)
    replace HLd := hid_ (HLd.out.fr hf5 id)
    clear hown hf5 hcap2 hcapm2 hd2
    clear v0 v1 v2 v3 v4 v5 v6 v7 v8
    go_upto_region 4 with fail
    obtain ⟨w6, hw6⟩ : ∃ z, z = w5.alloc (.cells (vwA V (.slice A2 V.ents.length c2)) 57) := ⟨_, rfl⟩
    have fw6 : Fr none_ w5 w6 := by rw [hw6]; exact (Fr.refl none_ w5).alloc _
    have BX : Hid (Blk w6 w5.heap.size 57 (vwA V (.slice A2 V.ents.length c2))) := hid_ (by rw [hw6]; exact Blk.new w5 _ _)
    replace H := hid_ (H.out.keep fw6)
    replace F := hid_ (F.out.then_none fw6)
    replace BV := hid_ (BV.out.fr fw6 id)
    replace VI := hid_ (VI.out.keep fw6)
    replace X5 := hid_ (X5.out.keep fw6)
    replace HLd := hid_ (HLd.out.fr fw6 id)
    change Code.wp _ _ _ _ (w5.alloc (.cells (vwA V (.slice A2 V.ents.length c2)) 57))
    rw [← hw6]
    clear hw6 fw6
    have v0 : w6.cell? ⟨w5.heap.size, 0, none⟩ = some (.string V.low) := BX.out.cell' rfl
    have v1 : w6.cell? ⟨w5.heap.size, 1, none⟩ = some (.string V.high) := BX.out.cell' rfl
    have v2 : w6.cell? ⟨w5.heap.size, 2, none⟩ = some (.bool V.unb) := BX.out.cell' rfl
    have v3 : w6.cell? ⟨w5.heap.size, 3, none⟩ = some (.int .i64 V.right) := BX.out.cell' rfl
    have v4 : w6.cell? ⟨w5.heap.size, 4, none⟩ = some (.slice A2 V.ents.length c2) := BX.out.cell' rfl
    have v5 : w6.cell? ⟨w5.heap.size, 5, none⟩ = some (.bool V.held) := BX.out.cell' rfl
    have v6 : w6.cell? ⟨w5.heap.size, 6, none⟩ = some (.int .i64 V.hp) := BX.out.cell' rfl
    have v7 : w6.cell? ⟨w5.heap.size, 7, none⟩ = some (.int .i64 V.hl) := BX.out.cell' rfl
    have v8 : w6.cell? ⟨w5.heap.size, 8, none⟩ = some (.string V.hk) := BX.out.cell' rfl
    go_wp2_with fail
    refine (split_x V right A2 c2 _ X5.out).mono ?_
    rintro e w7 ⟨R1, R2, a1, d1, a2, d2, k1, hs1, rfl, hr1, hr2, hf⟩
    have HS1 := hid_ hs1
    have Y1 := hid_ hr1
    have Y2 := hid_ hr2
    replace H := hid_ (H.out.keep hf)
    replace F := hid_ (F.out.then_none hf)
    replace BV := hid_ (BV.out.fr hf id)
    replace VI := hid_ (VI.out.keep hf)
    replace X5 := hid_ (X5.out.keep hf)
    replace BX := hid_ (BX.out.fr hf id)
    replace HLd := hid_ (HLd.out.fr hf id)
    clear hs1 hr1 hr2 hf
    clear v0 v1 v2 v3 v4 v5 v6 v7 v8
    go_upto_region 5 with (first | (refine wpList_store_mid rfl 40 (.tmp 8) (.tmp 41) rfl (w7.heap.size) 0 (recL ⟨R1, none, 0, a1, d1⟩).toArray rfl rfl ((show Blk ((w7.alloc (.cells (recA Rc.zero (.slice none 0 0) (.slice none 0 0)) 40)).alloc (.cells (recA Rc.zero (.slice none 0 0) (.slice none 0 0)) 40)) (w7.heap.size) 40 (recA Rc.zero (.slice none 0 0) (.slice none 0 0)) from (Blk.new w7 _ _).alloc _).there0 rfl) rec_size8 (rec_one ⟨R1, none, 0, a1, d1⟩) ?_; obtain ⟨w8_0, h9⟩ : ∃ z, z = ((w7.alloc (.cells (recA Rc.zero (.slice none 0 0) (.slice none 0 0)) 40)).alloc (.cells (recA Rc.zero (.slice none 0 0) (.slice none 0 0)) 40)).setCells (w7.heap.size) 0 (recL ⟨R1, none, 0, a1, d1⟩) := ⟨_, rfl⟩; have ov := Blk.over (show Blk ((w7.alloc (.cells (recA Rc.zero (.slice none 0 0) (.slice none 0 0)) 40)).alloc (.cells (recA Rc.zero (.slice none 0 0) (.slice none 0 0)) 40)) (w7.heap.size) 40 (recA Rc.zero (.slice none 0 0) (.slice none 0 0)) from (Blk.new w7 _ _).alloc _) (recL ⟨R1, none, 0, a1, d1⟩) rfl; rw [← h9] at ov; have Ba := hid_ ov.1; have Bb : Hid (Blk w8_0 (w7.heap.size + 1) 40 (recA Rc.zero (.slice none 0 0) (.slice none 0 0))) := hid_ ((show Blk ((w7.alloc (.cells (recA Rc.zero (.slice none 0 0) (.slice none 0 0)) 40)).alloc (.cells (recA Rc.zero (.slice none 0 0) (.slice none 0 0)) 40)) (w7.heap.size + 1) 40 (recA Rc.zero (.slice none 0 0) (.slice none 0 0)) from Blk.new_at _ _ (by simp)).fr ov.2 (only_ne (by omega))); have FZ : Hid (Fr none_ w7 w8_0) := hid_ ((((Fr.refl none_ w7).alloc _).alloc _).then_only ov.2 (.inr (Nat.le_refl _))); change wpList _ _ _ _ _ (((w7.alloc (.cells (recA Rc.zero (.slice none 0 0) (.slice none 0 0)) 40)).alloc (.cells (recA Rc.zero (.slice none 0 0) (.slice none 0 0)) 40)).setCells (w7.heap.size) 0 (recL ⟨R1, none, 0, a1, d1⟩)); rw [← h9]; clear h9 ov) | (refine wpList_store_mid rfl 40 (.tmp 9) (.tmp 42) rfl (w7.heap.size + 1) 0 (recL ⟨R2, none, 0, a2, d2⟩).toArray rfl rfl ((Bb.out).there0 rfl) rec_size8 (rec_one ⟨R2, none, 0, a2, d2⟩) ?_; obtain ⟨w8, h9⟩ : ∃ z, z = w8_0.setCells (w7.heap.size + 1) 0 (recL ⟨R2, none, 0, a2, d2⟩) := ⟨_, rfl⟩; have ov := Blk.over Bb.out (recL ⟨R2, none, 0, a2, d2⟩) rfl; rw [← h9] at ov; replace Ba := hid_ (Ba.out.fr ov.2 (only_ne (by omega))); replace Bb := hid_ ov.1; replace FZ := hid_ (FZ.out.then_only ov.2 (.inr (by omega))); change wpList _ _ _ _ _ (w8_0.setCells (w7.heap.size + 1) 0 (recL ⟨R2, none, 0, a2, d2⟩)); rw [← h9]; clear h9 ov))
    replace H := hid_ (H.out.keep FZ.out)
    replace F := hid_ (F.out.then_none FZ.out)
    replace BV := hid_ (BV.out.fr FZ.out id)
    replace VI := hid_ (VI.out.keep FZ.out)
    replace X5 := hid_ (X5.out.keep FZ.out)
    replace BX := hid_ (BX.out.fr FZ.out id)
    replace Y1 := hid_ (Y1.out.keep FZ.out)
    replace Y2 := hid_ (Y2.out.keep FZ.out)
    replace HLd := hid_ (HLd.out.fr FZ.out id)
    clear FZ
    have v0 : w8.cell? ⟨w.heap.size, 0, none⟩ = some (.string V.low) := BV.out.cell' rfl
    have v1 : w8.cell? ⟨w.heap.size, 1, none⟩ = some (.string V.high) := BV.out.cell' rfl
    have v2 : w8.cell? ⟨w.heap.size, 2, none⟩ = some (.bool V.unb) := BV.out.cell' rfl
    have v3 : w8.cell? ⟨w.heap.size, 3, none⟩ = some (.int .i64 V.right) := BV.out.cell' rfl
    have v4 : w8.cell? ⟨w.heap.size, 4, none⟩ = some (.slice A V.ents.length c) := BV.out.cell' rfl
    have v5 : w8.cell? ⟨w.heap.size, 5, none⟩ = some (.bool V.held) := BV.out.cell' rfl
    have v6 : w8.cell? ⟨w.heap.size, 6, none⟩ = some (.int .i64 V.hp) := BV.out.cell' rfl
    have v7 : w8.cell? ⟨w.heap.size, 7, none⟩ = some (.int .i64 V.hl) := BV.out.cell' rfl
    have v8 : w8.cell? ⟨w.heap.size, 8, none⟩ = some (.string V.hk) := BV.out.cell' rfl
    go_wp2_with fail
    refine (rsplit_ok V right A c _ VI.out).mono ?_
    rintro e w9 ⟨R1', R2', b1, e1, b2, e2, k1', hs2, rfl, hr1, hr2, -, -, hf⟩
    obtain ⟨rfl, rfl, rfl⟩ := HS1.out.uniq hs2
    have Y3 := hid_ hr1
    have Y4 := hid_ hr2
    replace H := hid_ (H.out.keep hf)
    replace F := hid_ (F.out.then_none hf)
    replace BV := hid_ (BV.out.fr hf id)
    replace VI := hid_ (VI.out.keep hf)
    replace X5 := hid_ (X5.out.keep hf)
    replace BX := hid_ (BX.out.fr hf id)
    replace Y1 := hid_ (Y1.out.keep hf)
    replace Y2 := hid_ (Y2.out.keep hf)
    replace Ba := hid_ (Ba.out.fr hf id)
    replace Bb := hid_ (Bb.out.fr hf id)
    replace HLd := hid_ (HLd.out.fr hf id)
    clear hs2 hr1 hr2 hf
    clear v0 v1 v2 v3 v4 v5 v6 v7 v8
    go_upto_region 6 with (first | (refine wpList_store_mid rfl 40 (.tmp 11) (.tmp 48) rfl (w9.heap.size) 0 (recL ⟨R1, none, 0, b1, e1⟩).toArray rfl rfl ((show Blk ((w9.alloc (.cells (recA Rc.zero (.slice none 0 0) (.slice none 0 0)) 40)).alloc (.cells (recA Rc.zero (.slice none 0 0) (.slice none 0 0)) 40)) (w9.heap.size) 40 (recA Rc.zero (.slice none 0 0) (.slice none 0 0)) from (Blk.new w9 _ _).alloc _).there0 rfl) rec_size8 (rec_one ⟨R1, none, 0, b1, e1⟩) ?_; obtain ⟨w10_0, h9⟩ : ∃ z, z = ((w9.alloc (.cells (recA Rc.zero (.slice none 0 0) (.slice none 0 0)) 40)).alloc (.cells (recA Rc.zero (.slice none 0 0) (.slice none 0 0)) 40)).setCells (w9.heap.size) 0 (recL ⟨R1, none, 0, b1, e1⟩) := ⟨_, rfl⟩; have ov := Blk.over (show Blk ((w9.alloc (.cells (recA Rc.zero (.slice none 0 0) (.slice none 0 0)) 40)).alloc (.cells (recA Rc.zero (.slice none 0 0) (.slice none 0 0)) 40)) (w9.heap.size) 40 (recA Rc.zero (.slice none 0 0) (.slice none 0 0)) from (Blk.new w9 _ _).alloc _) (recL ⟨R1, none, 0, b1, e1⟩) rfl; rw [← h9] at ov; have Bc := hid_ ov.1; have Bd : Hid (Blk w10_0 (w9.heap.size + 1) 40 (recA Rc.zero (.slice none 0 0) (.slice none 0 0))) := hid_ ((show Blk ((w9.alloc (.cells (recA Rc.zero (.slice none 0 0) (.slice none 0 0)) 40)).alloc (.cells (recA Rc.zero (.slice none 0 0) (.slice none 0 0)) 40)) (w9.heap.size + 1) 40 (recA Rc.zero (.slice none 0 0) (.slice none 0 0)) from Blk.new_at _ _ (by simp)).fr ov.2 (only_ne (by omega))); have FZ : Hid (Fr none_ w9 w10_0) := hid_ ((((Fr.refl none_ w9).alloc _).alloc _).then_only ov.2 (.inr (Nat.le_refl _))); change wpList _ _ _ _ _ (((w9.alloc (.cells (recA Rc.zero (.slice none 0 0) (.slice none 0 0)) 40)).alloc (.cells (recA Rc.zero (.slice none 0 0) (.slice none 0 0)) 40)).setCells (w9.heap.size) 0 (recL ⟨R1, none, 0, b1, e1⟩)); rw [← h9]; clear h9 ov) | (refine wpList_store_mid rfl 40 (.tmp 12) (.tmp 49) rfl (w9.heap.size + 1) 0 (recL ⟨R2, none, 0, b2, e2⟩).toArray rfl rfl ((Bd.out).there0 rfl) rec_size8 (rec_one ⟨R2, none, 0, b2, e2⟩) ?_; obtain ⟨w10, h9⟩ : ∃ z, z = w10_0.setCells (w9.heap.size + 1) 0 (recL ⟨R2, none, 0, b2, e2⟩) := ⟨_, rfl⟩; have ov := Blk.over Bd.out (recL ⟨R2, none, 0, b2, e2⟩) rfl; rw [← h9] at ov; replace Bc := hid_ (Bc.out.fr ov.2 (only_ne (by omega))); replace Bd := hid_ ov.1; replace FZ := hid_ (FZ.out.then_only ov.2 (.inr (by omega))); change wpList _ _ _ _ _ (w10_0.setCells (w9.heap.size + 1) 0 (recL ⟨R2, none, 0, b2, e2⟩)); rw [← h9]; clear h9 ov))
    replace H := hid_ (H.out.keep FZ.out)
    replace F := hid_ (F.out.then_none FZ.out)
    replace BV := hid_ (BV.out.fr FZ.out id)
    replace VI := hid_ (VI.out.keep FZ.out)
    replace X5 := hid_ (X5.out.keep FZ.out)
    replace BX := hid_ (BX.out.fr FZ.out id)
    replace Y1 := hid_ (Y1.out.keep FZ.out)
    replace Y2 := hid_ (Y2.out.keep FZ.out)
    replace Ba := hid_ (Ba.out.fr FZ.out id)
    replace Bb := hid_ (Bb.out.fr FZ.out id)
    replace Y3 := hid_ (Y3.out.keep FZ.out)
    replace Y4 := hid_ (Y4.out.keep FZ.out)
    replace HLd := hid_ (HLd.out.fr FZ.out id)
    clear FZ
    have v0 : w10.cell? ⟨w5.heap.size, 0, none⟩ = some (.string V.low) := BX.out.cell' rfl
    have v1 : w10.cell? ⟨w5.heap.size, 1, none⟩ = some (.string V.high) := BX.out.cell' rfl
    have v2 : w10.cell? ⟨w5.heap.size, 2, none⟩ = some (.bool V.unb) := BX.out.cell' rfl
    have v3 : w10.cell? ⟨w5.heap.size, 3, none⟩ = some (.int .i64 V.right) := BX.out.cell' rfl
    have v4 : w10.cell? ⟨w5.heap.size, 4, none⟩ = some (.slice A2 V.ents.length c2) := BX.out.cell' rfl
    have v5 : w10.cell? ⟨w5.heap.size, 5, none⟩ = some (.bool V.held) := BX.out.cell' rfl
    have v6 : w10.cell? ⟨w5.heap.size, 6, none⟩ = some (.int .i64 V.hp) := BX.out.cell' rfl
    have v7 : w10.cell? ⟨w5.heap.size, 7, none⟩ = some (.int .i64 V.hl) := BX.out.cell' rfl
    have v8 : w10.cell? ⟨w5.heap.size, 8, none⟩ = some (.string V.hk) := BX.out.cell' rfl
    go_wp2_with fail
    refine (grow_x V left right A2 c2 _ X5.out).mono ?_
    rintro e w11 ⟨R3, R4, R5, a3, d3, a4, d4, a5, d5, k2, hs1, rfl, hr1, hr2, hr3, hf⟩
    have HS2 := hid_ hs1
    have Y5 := hid_ hr1
    have Y6 := hid_ hr2
    have Y7 := hid_ hr3
    replace H := hid_ (H.out.keep hf)
    replace F := hid_ (F.out.then_none hf)
    replace BV := hid_ (BV.out.fr hf id)
    replace VI := hid_ (VI.out.keep hf)
    replace X5 := hid_ (X5.out.keep hf)
    replace BX := hid_ (BX.out.fr hf id)
    replace Y1 := hid_ (Y1.out.keep hf)
    replace Y2 := hid_ (Y2.out.keep hf)
    replace Ba := hid_ (Ba.out.fr hf id)
    replace Bb := hid_ (Bb.out.fr hf id)
    replace Y3 := hid_ (Y3.out.keep hf)
    replace Y4 := hid_ (Y4.out.keep hf)
    replace Bc := hid_ (Bc.out.fr hf id)
    replace Bd := hid_ (Bd.out.fr hf id)
    replace HLd := hid_ (HLd.out.fr hf id)
    clear hs1 hr1 hr2 hr3 hf
    clear v0 v1 v2 v3 v4 v5 v6 v7 v8
    go_upto_region 7 with (first | (refine wpList_store_mid rfl 40 (.tmp 14) (.tmp 56) rfl (w11.heap.size) 0 (recL ⟨R3, none, 0, a3, d3⟩).toArray rfl rfl ((show Blk (((w11.alloc (.cells (recA Rc.zero (.slice none 0 0) (.slice none 0 0)) 40)).alloc (.cells (recA Rc.zero (.slice none 0 0) (.slice none 0 0)) 40)).alloc (.cells (recA Rc.zero (.slice none 0 0) (.slice none 0 0)) 40)) (w11.heap.size) 40 (recA Rc.zero (.slice none 0 0) (.slice none 0 0)) from ((Blk.new w11 _ _).alloc _).alloc _).there0 rfl) rec_size8 (rec_one ⟨R3, none, 0, a3, d3⟩) ?_; obtain ⟨w12_0, h9⟩ : ∃ z, z = (((w11.alloc (.cells (recA Rc.zero (.slice none 0 0) (.slice none 0 0)) 40)).alloc (.cells (recA Rc.zero (.slice none 0 0) (.slice none 0 0)) 40)).alloc (.cells (recA Rc.zero (.slice none 0 0) (.slice none 0 0)) 40)).setCells (w11.heap.size) 0 (recL ⟨R3, none, 0, a3, d3⟩) := ⟨_, rfl⟩; have ov := Blk.over (show Blk (((w11.alloc (.cells (recA Rc.zero (.slice none 0 0) (.slice none 0 0)) 40)).alloc (.cells (recA Rc.zero (.slice none 0 0) (.slice none 0 0)) 40)).alloc (.cells (recA Rc.zero (.slice none 0 0) (.slice none 0 0)) 40)) (w11.heap.size) 40 (recA Rc.zero (.slice none 0 0) (.slice none 0 0)) from ((Blk.new w11 _ _).alloc _).alloc _) (recL ⟨R3, none, 0, a3, d3⟩) rfl; rw [← h9] at ov; have Be := hid_ ov.1; have Bf : Hid (Blk w12_0 (w11.heap.size + 1) 40 (recA Rc.zero (.slice none 0 0) (.slice none 0 0))) := hid_ ((show Blk (((w11.alloc (.cells (recA Rc.zero (.slice none 0 0) (.slice none 0 0)) 40)).alloc (.cells (recA Rc.zero (.slice none 0 0) (.slice none 0 0)) 40)).alloc (.cells (recA Rc.zero (.slice none 0 0) (.slice none 0 0)) 40)) (w11.heap.size + 1) 40 (recA Rc.zero (.slice none 0 0) (.slice none 0 0)) from (Blk.new_at _ _ (by simp)).alloc _).fr ov.2 (only_ne (by omega))); have Bg : Hid (Blk w12_0 (w11.heap.size + 1 + 1) 40 (recA Rc.zero (.slice none 0 0) (.slice none 0 0))) := hid_ ((show Blk (((w11.alloc (.cells (recA Rc.zero (.slice none 0 0) (.slice none 0 0)) 40)).alloc (.cells (recA Rc.zero (.slice none 0 0) (.slice none 0 0)) 40)).alloc (.cells (recA Rc.zero (.slice none 0 0) (.slice none 0 0)) 40)) (w11.heap.size + 1 + 1) 40 (recA Rc.zero (.slice none 0 0) (.slice none 0 0)) from Blk.new_at _ _ (by simp)).fr ov.2 (only_ne (by omega))); have FZ : Hid (Fr none_ w11 w12_0) := hid_ (((((Fr.refl none_ w11).alloc _).alloc _).alloc _).then_only ov.2 (.inr (Nat.le_refl _))); change wpList _ _ _ _ _ ((((w11.alloc (.cells (recA Rc.zero (.slice none 0 0) (.slice none 0 0)) 40)).alloc (.cells (recA Rc.zero (.slice none 0 0) (.slice none 0 0)) 40)).alloc (.cells (recA Rc.zero (.slice none 0 0) (.slice none 0 0)) 40)).setCells (w11.heap.size) 0 (recL ⟨R3, none, 0, a3, d3⟩)); rw [← h9]; clear h9 ov) | (refine wpList_store_mid rfl 40 (.tmp 15) (.tmp 57) rfl (w11.heap.size + 1) 0 (recL ⟨R4, none, 0, a4, d4⟩).toArray rfl rfl ((Bf.out).there0 rfl) rec_size8 (rec_one ⟨R4, none, 0, a4, d4⟩) ?_; obtain ⟨w12_1, h9⟩ : ∃ z, z = w12_0.setCells (w11.heap.size + 1) 0 (recL ⟨R4, none, 0, a4, d4⟩) := ⟨_, rfl⟩; have ov := Blk.over Bf.out (recL ⟨R4, none, 0, a4, d4⟩) rfl; rw [← h9] at ov; replace Be := hid_ (Be.out.fr ov.2 (only_ne (by omega))); replace Bg := hid_ (Bg.out.fr ov.2 (only_ne (by omega))); replace Bf := hid_ ov.1; replace FZ := hid_ (FZ.out.then_only ov.2 (.inr (by omega))); change wpList _ _ _ _ _ (w12_0.setCells (w11.heap.size + 1) 0 (recL ⟨R4, none, 0, a4, d4⟩)); rw [← h9]; clear h9 ov) | (refine wpList_store_mid rfl 40 (.tmp 16) (.tmp 58) rfl (w11.heap.size + 1 + 1) 0 (recL ⟨R5, none, 0, a5, d5⟩).toArray rfl rfl ((Bg.out).there0 rfl) rec_size8 (rec_one ⟨R5, none, 0, a5, d5⟩) ?_; obtain ⟨w12, h9⟩ : ∃ z, z = w12_1.setCells (w11.heap.size + 1 + 1) 0 (recL ⟨R5, none, 0, a5, d5⟩) := ⟨_, rfl⟩; have ov := Blk.over Bg.out (recL ⟨R5, none, 0, a5, d5⟩) rfl; rw [← h9] at ov; replace Be := hid_ (Be.out.fr ov.2 (only_ne (by omega))); replace Bf := hid_ (Bf.out.fr ov.2 (only_ne (by omega))); replace Bg := hid_ ov.1; replace FZ := hid_ (FZ.out.then_only ov.2 (.inr (by omega))); change wpList _ _ _ _ _ (w12_1.setCells (w11.heap.size + 1 + 1) 0 (recL ⟨R5, none, 0, a5, d5⟩)); rw [← h9]; clear h9 ov))
    replace H := hid_ (H.out.keep FZ.out)
    replace F := hid_ (F.out.then_none FZ.out)
    replace BV := hid_ (BV.out.fr FZ.out id)
    replace VI := hid_ (VI.out.keep FZ.out)
    replace X5 := hid_ (X5.out.keep FZ.out)
    replace BX := hid_ (BX.out.fr FZ.out id)
    replace Y1 := hid_ (Y1.out.keep FZ.out)
    replace Y2 := hid_ (Y2.out.keep FZ.out)
    replace Ba := hid_ (Ba.out.fr FZ.out id)
    replace Bb := hid_ (Bb.out.fr FZ.out id)
    replace Y3 := hid_ (Y3.out.keep FZ.out)
    replace Y4 := hid_ (Y4.out.keep FZ.out)
    replace Bc := hid_ (Bc.out.fr FZ.out id)
    replace Bd := hid_ (Bd.out.fr FZ.out id)
    replace Y5 := hid_ (Y5.out.keep FZ.out)
    replace Y6 := hid_ (Y6.out.keep FZ.out)
    replace Y7 := hid_ (Y7.out.keep FZ.out)
    replace HLd := hid_ (HLd.out.fr FZ.out id)
    clear FZ
    have v0 : w12.cell? ⟨w.heap.size, 0, none⟩ = some (.string V.low) := BV.out.cell' rfl
    have v1 : w12.cell? ⟨w.heap.size, 1, none⟩ = some (.string V.high) := BV.out.cell' rfl
    have v2 : w12.cell? ⟨w.heap.size, 2, none⟩ = some (.bool V.unb) := BV.out.cell' rfl
    have v3 : w12.cell? ⟨w.heap.size, 3, none⟩ = some (.int .i64 V.right) := BV.out.cell' rfl
    have v4 : w12.cell? ⟨w.heap.size, 4, none⟩ = some (.slice A V.ents.length c) := BV.out.cell' rfl
    have v5 : w12.cell? ⟨w.heap.size, 5, none⟩ = some (.bool V.held) := BV.out.cell' rfl
    have v6 : w12.cell? ⟨w.heap.size, 6, none⟩ = some (.int .i64 V.hp) := BV.out.cell' rfl
    have v7 : w12.cell? ⟨w.heap.size, 7, none⟩ = some (.int .i64 V.hl) := BV.out.cell' rfl
    have v8 : w12.cell? ⟨w.heap.size, 8, none⟩ = some (.string V.hk) := BV.out.cell' rfl
    go_wp2_with fail
    refine (rgrow_ok V left right A c _ VI.out).mono ?_
    rintro e w13 ⟨R3', R4', R5', b3, e3, b4, e4, b5, e5, k2', hs2, rfl, hr1, hr2, hr3, hf⟩
    obtain ⟨rfl, rfl, rfl, rfl⟩ := HS2.out.uniq hs2
    have Y8 := hid_ hr1
    have Y9 := hid_ hr2
    have Y10 := hid_ hr3
    replace H := hid_ (H.out.keep hf)
    replace F := hid_ (F.out.then_none hf)
    replace BV := hid_ (BV.out.fr hf id)
    replace VI := hid_ (VI.out.keep hf)
    replace X5 := hid_ (X5.out.keep hf)
    replace BX := hid_ (BX.out.fr hf id)
    replace Y1 := hid_ (Y1.out.keep hf)
    replace Y2 := hid_ (Y2.out.keep hf)
    replace Ba := hid_ (Ba.out.fr hf id)
    replace Bb := hid_ (Bb.out.fr hf id)
    replace Y3 := hid_ (Y3.out.keep hf)
    replace Y4 := hid_ (Y4.out.keep hf)
    replace Bc := hid_ (Bc.out.fr hf id)
    replace Bd := hid_ (Bd.out.fr hf id)
    replace Y5 := hid_ (Y5.out.keep hf)
    replace Y6 := hid_ (Y6.out.keep hf)
    replace Y7 := hid_ (Y7.out.keep hf)
    replace Be := hid_ (Be.out.fr hf id)
    replace Bf := hid_ (Bf.out.fr hf id)
    replace Bg := hid_ (Bg.out.fr hf id)
    replace HLd := hid_ (HLd.out.fr hf id)
    clear hs2 hr1 hr2 hr3 hf
    clear v0 v1 v2 v3 v4 v5 v6 v7 v8
    go_upto_region 8 with (first | (refine wpList_store_mid rfl 40 (.tmp 18) (.tmp 65) rfl (w13.heap.size) 0 (recL ⟨R3, none, 0, b3, e3⟩).toArray rfl rfl ((show Blk (((w13.alloc (.cells (recA Rc.zero (.slice none 0 0) (.slice none 0 0)) 40)).alloc (.cells (recA Rc.zero (.slice none 0 0) (.slice none 0 0)) 40)).alloc (.cells (recA Rc.zero (.slice none 0 0) (.slice none 0 0)) 40)) (w13.heap.size) 40 (recA Rc.zero (.slice none 0 0) (.slice none 0 0)) from ((Blk.new w13 _ _).alloc _).alloc _).there0 rfl) rec_size8 (rec_one ⟨R3, none, 0, b3, e3⟩) ?_; obtain ⟨w14_0, h9⟩ : ∃ z, z = (((w13.alloc (.cells (recA Rc.zero (.slice none 0 0) (.slice none 0 0)) 40)).alloc (.cells (recA Rc.zero (.slice none 0 0) (.slice none 0 0)) 40)).alloc (.cells (recA Rc.zero (.slice none 0 0) (.slice none 0 0)) 40)).setCells (w13.heap.size) 0 (recL ⟨R3, none, 0, b3, e3⟩) := ⟨_, rfl⟩; have ov := Blk.over (show Blk (((w13.alloc (.cells (recA Rc.zero (.slice none 0 0) (.slice none 0 0)) 40)).alloc (.cells (recA Rc.zero (.slice none 0 0) (.slice none 0 0)) 40)).alloc (.cells (recA Rc.zero (.slice none 0 0) (.slice none 0 0)) 40)) (w13.heap.size) 40 (recA Rc.zero (.slice none 0 0) (.slice none 0 0)) from ((Blk.new w13 _ _).alloc _).alloc _) (recL ⟨R3, none, 0, b3, e3⟩) rfl; rw [← h9] at ov; have Bh := hid_ ov.1; have Bi : Hid (Blk w14_0 (w13.heap.size + 1) 40 (recA Rc.zero (.slice none 0 0) (.slice none 0 0))) := hid_ ((show Blk (((w13.alloc (.cells (recA Rc.zero (.slice none 0 0) (.slice none 0 0)) 40)).alloc (.cells (recA Rc.zero (.slice none 0 0) (.slice none 0 0)) 40)).alloc (.cells (recA Rc.zero (.slice none 0 0) (.slice none 0 0)) 40)) (w13.heap.size + 1) 40 (recA Rc.zero (.slice none 0 0) (.slice none 0 0)) from (Blk.new_at _ _ (by simp)).alloc _).fr ov.2 (only_ne (by omega))); have Bj : Hid (Blk w14_0 (w13.heap.size + 1 + 1) 40 (recA Rc.zero (.slice none 0 0) (.slice none 0 0))) := hid_ ((show Blk (((w13.alloc (.cells (recA Rc.zero (.slice none 0 0) (.slice none 0 0)) 40)).alloc (.cells (recA Rc.zero (.slice none 0 0) (.slice none 0 0)) 40)).alloc (.cells (recA Rc.zero (.slice none 0 0) (.slice none 0 0)) 40)) (w13.heap.size + 1 + 1) 40 (recA Rc.zero (.slice none 0 0) (.slice none 0 0)) from Blk.new_at _ _ (by simp)).fr ov.2 (only_ne (by omega))); have FZ : Hid (Fr none_ w13 w14_0) := hid_ (((((Fr.refl none_ w13).alloc _).alloc _).alloc _).then_only ov.2 (.inr (Nat.le_refl _))); change wpList _ _ _ _ _ ((((w13.alloc (.cells (recA Rc.zero (.slice none 0 0) (.slice none 0 0)) 40)).alloc (.cells (recA Rc.zero (.slice none 0 0) (.slice none 0 0)) 40)).alloc (.cells (recA Rc.zero (.slice none 0 0) (.slice none 0 0)) 40)).setCells (w13.heap.size) 0 (recL ⟨R3, none, 0, b3, e3⟩)); rw [← h9]; clear h9 ov) | (refine wpList_store_mid rfl 40 (.tmp 19) (.tmp 66) rfl (w13.heap.size + 1) 0 (recL ⟨R4, none, 0, b4, e4⟩).toArray rfl rfl ((Bi.out).there0 rfl) rec_size8 (rec_one ⟨R4, none, 0, b4, e4⟩) ?_; obtain ⟨w14_1, h9⟩ : ∃ z, z = w14_0.setCells (w13.heap.size + 1) 0 (recL ⟨R4, none, 0, b4, e4⟩) := ⟨_, rfl⟩; have ov := Blk.over Bi.out (recL ⟨R4, none, 0, b4, e4⟩) rfl; rw [← h9] at ov; replace Bh := hid_ (Bh.out.fr ov.2 (only_ne (by omega))); replace Bj := hid_ (Bj.out.fr ov.2 (only_ne (by omega))); replace Bi := hid_ ov.1; replace FZ := hid_ (FZ.out.then_only ov.2 (.inr (by omega))); change wpList _ _ _ _ _ (w14_0.setCells (w13.heap.size + 1) 0 (recL ⟨R4, none, 0, b4, e4⟩)); rw [← h9]; clear h9 ov) | (refine wpList_store_mid rfl 40 (.tmp 20) (.tmp 67) rfl (w13.heap.size + 1 + 1) 0 (recL ⟨R5, none, 0, b5, e5⟩).toArray rfl rfl ((Bj.out).there0 rfl) rec_size8 (rec_one ⟨R5, none, 0, b5, e5⟩) ?_; obtain ⟨w14, h9⟩ : ∃ z, z = w14_1.setCells (w13.heap.size + 1 + 1) 0 (recL ⟨R5, none, 0, b5, e5⟩) := ⟨_, rfl⟩; have ov := Blk.over Bj.out (recL ⟨R5, none, 0, b5, e5⟩) rfl; rw [← h9] at ov; replace Bh := hid_ (Bh.out.fr ov.2 (only_ne (by omega))); replace Bi := hid_ (Bi.out.fr ov.2 (only_ne (by omega))); replace Bj := hid_ ov.1; replace FZ := hid_ (FZ.out.then_only ov.2 (.inr (by omega))); change wpList _ _ _ _ _ (w14_1.setCells (w13.heap.size + 1 + 1) 0 (recL ⟨R5, none, 0, b5, e5⟩)); rw [← h9]; clear h9 ov))
    replace H := hid_ (H.out.keep FZ.out)
    replace F := hid_ (F.out.then_none FZ.out)
    replace BV := hid_ (BV.out.fr FZ.out id)
    replace VI := hid_ (VI.out.keep FZ.out)
    replace X5 := hid_ (X5.out.keep FZ.out)
    replace BX := hid_ (BX.out.fr FZ.out id)
    replace Y1 := hid_ (Y1.out.keep FZ.out)
    replace Y2 := hid_ (Y2.out.keep FZ.out)
    replace Ba := hid_ (Ba.out.fr FZ.out id)
    replace Bb := hid_ (Bb.out.fr FZ.out id)
    replace Y3 := hid_ (Y3.out.keep FZ.out)
    replace Y4 := hid_ (Y4.out.keep FZ.out)
    replace Bc := hid_ (Bc.out.fr FZ.out id)
    replace Bd := hid_ (Bd.out.fr FZ.out id)
    replace Y5 := hid_ (Y5.out.keep FZ.out)
    replace Y6 := hid_ (Y6.out.keep FZ.out)
    replace Y7 := hid_ (Y7.out.keep FZ.out)
    replace Be := hid_ (Be.out.fr FZ.out id)
    replace Bf := hid_ (Bf.out.fr FZ.out id)
    replace Bg := hid_ (Bg.out.fr FZ.out id)
    replace Y8 := hid_ (Y8.out.keep FZ.out)
    replace Y9 := hid_ (Y9.out.keep FZ.out)
    replace Y10 := hid_ (Y10.out.keep FZ.out)
    replace HLd := hid_ (HLd.out.fr FZ.out id)
    clear FZ
    have hS : (fun w' : World => Fr none_ w14 w') w14.drew := (Fr.refl none_ w14).drew
    refine wp_region_U (m := 52) (S := fun w' : World => Fr none_ w14 w') (by kernel_rfl) ?_
    refine wpAnyU_take2 (i := 0) (v := _) rfl (by kernel_rfl) (by kernel_rfl) (by kernel_rfl) (by kernel_rfl) (fun _ _ _ h => h) (.inl ⟨by kernel_rfl, fun w' hS => by go_simp; rfl⟩) hS ?_
    refine wpAnyU_take2 (i := 2) (v := _) rfl (by kernel_rfl) (by kernel_rfl) (by kernel_rfl) (by kernel_rfl) (fun _ _ _ h => h) (.inl ⟨by kernel_rfl, fun w' hS => by go_simp; rfl⟩) hS ?_
    refine wpAnyU_oneG (i := 1) rfl (by kernel_rfl) (by kernel_rfl) ?_
    go_simp
    refine (code_any k1 _ (HLd.out.fr hS id)).mono ?_
    rintro e wq1 ⟨rfl, hf⟩
    replace hS : Fr none_ w14 wq1 := Fr.then_none hS hf
    refine ⟨hS, ?_⟩
    clear hf
    refine wpAnyU_take2 (i := 3) (v := _) rfl (by kernel_rfl) (by kernel_rfl) (by kernel_rfl) (by kernel_rfl) (fun _ _ _ h => h) (.inl ⟨by kernel_rfl, fun w' hS => by go_simp; rfl⟩) hS ?_
    refine wpAnyU_take2 (i := 4) (v := _) rfl (by kernel_rfl) (by kernel_rfl) (by kernel_rfl) (by kernel_rfl) (fun _ _ _ h => h) (.inl ⟨by kernel_rfl, fun w' hS => by go_simp; rfl⟩) hS ?_
    refine wpAnyU_take2 (i := 5) (v := _) rfl (by kernel_rfl) (by kernel_rfl) (by kernel_rfl) (by kernel_rfl) (fun _ _ _ h => h) (.inl ⟨by kernel_rfl, fun w' hS => by go_simp; rfl⟩) hS ?_
    refine wpAnyU_take2 (i := 7) (v := _) rfl (by kernel_rfl) (by kernel_rfl) (by kernel_rfl) (by kernel_rfl) (fun _ _ _ h => h) (.inl ⟨by kernel_rfl, fun w' hS => by go_simp; rfl⟩) hS ?_
    refine wpAnyU_oneG (i := 6) rfl (by kernel_rfl) (by kernel_rfl) ?_
    go_simp
    refine (code_any k2 _ (HLd.out.fr hS id)).mono ?_
    rintro e wq2 ⟨rfl, hf⟩
    replace hS : Fr none_ w14 wq2 := Fr.then_none hS hf
    refine ⟨hS, ?_⟩
    clear hf
    refine wpAnyU_take2 (i := 8) (v := _) rfl (by kernel_rfl) (by kernel_rfl) (by kernel_rfl) (by kernel_rfl) (fun _ _ _ h => h) (.inl ⟨by kernel_rfl, fun w' hS => by go_simp; rfl⟩) hS ?_
    refine wpAnyU_take2 (i := 9) (v := _) rfl (by kernel_rfl) (by kernel_rfl) (by kernel_rfl) (by kernel_rfl) (fun _ _ _ h => h) (.inl ⟨by kernel_rfl, fun w' hS => by go_simp; rfl⟩) hS ?_
    refine wpAnyU_take2 (i := 10) (v := _) rfl (by kernel_rfl) (by kernel_rfl) (by kernel_rfl) (by kernel_rfl) (fun _ _ _ h => h) (.inl ⟨by kernel_rfl, fun w' hS => by go_simp; rfl⟩) hS ?_
    refine wpAnyU_take2 (i := 11) (v := .agg [.string V.low, .string V.high, .bool V.unb, .int .i64 V.right, .slice A2 V.ents.length c2, .bool V.held, .int .i64 V.hp, .int .i64 V.hl, .string V.hk].toArray) rfl (by kernel_rfl) (by kernel_rfl) (by kernel_rfl) (by kernel_rfl) (fun _ _ _ h => h) (yieldsIf_load_mid (by kernel_rfl) 57 (.tmp 7) rfl (w5.heap.size) 0 rfl [.string V.low, .string V.high, .bool V.unb, .int .i64 V.right, .slice A2 V.ents.length c2, .bool V.held, .int .i64 V.hp, .int .i64 V.hl, .string V.hk] _ (fun w' hS => Blk.range8 (BX.out.fr hS id)) Tryd.underlying57 rfl (by kernel_rfl)) hS ?_
    refine wpAnyU_take2 (i := 13) (v := .agg [.string V.low, .string V.high, .bool V.unb, .int .i64 V.right, .slice A V.ents.length c, .bool V.held, .int .i64 V.hp, .int .i64 V.hl, .string V.hk].toArray) rfl (by kernel_rfl) (by kernel_rfl) (by kernel_rfl) (by kernel_rfl) (fun _ _ _ h => h) (yieldsIf_load_mid (by kernel_rfl) 52 (.tmp 3) rfl (w.heap.size) 0 rfl [.string V.low, .string V.high, .bool V.unb, .int .i64 V.right, .slice A V.ents.length c, .bool V.held, .int .i64 V.hp, .int .i64 V.hl, .string V.hk] _ (fun w' hS => Blk.range8 (BV.out.fr hS id)) Tryd.underlying52 rfl (by kernel_rfl)) hS ?_
    refine wpAnyU_oneG (i := 12) rfl (by kernel_rfl) (by kernel_rfl) ?_
    go_simp
    refine (base_ok V A2 c2 _ (X5.out.keep hS)).mono ?_
    rintro e wb ⟨A7, c7, rfl, ho7, hf⟩
    have O7 := hid_ ho7
    replace hS : Fr none_ w14 wb := Fr.then_none hS hf
    refine ⟨hS, ?_⟩
    clear hf ho7
    have FB := hid_ (Fr.refl none_ wb)
    refine wpAnyU_oneG (i := 14) rfl (by kernel_rfl) (by kernel_rfl) ?_
    go_simp
    refine (rbase_ok V A c _).mono ?_
    rintro e wb2 ⟨rfl, hf⟩
    replace hS : Fr none_ w14 wb2 := Fr.then_none hS hf
    replace FB := hid_ (FB.out.then_none hf)
    refine ⟨hS, ?_⟩
    clear hf
    refine wpAnyU_oneG (i := 15) rfl (by kernel_rfl) (by kernel_rfl) ?_
    go_simp
    refine (same4_ok (baseR V) none 0 A7 c7 none 0 A c _ ⟨Reads.nil_, (Reads.of_own O7.out).none_fr FB.out⟩ ⟨Reads.nil_, (VI.out.keep hS).rd⟩ (Nat.zero_le _) VI.out.ok.ents.1).mono ?_
    rintro e wq3 ⟨rfl, hf⟩
    replace hS : Fr none_ w14 wq3 := Fr.then_none hS hf
    refine ⟨hS, ?_⟩
    clear hf
    refine wpAnyU_take2 (i := 16) (v := _) rfl (by kernel_rfl) (by kernel_rfl) (by kernel_rfl) (by kernel_rfl) (fun _ _ _ h => h) (.inl ⟨by kernel_rfl, fun w' hS => by go_simp; rfl⟩) hS ?_
    refine wpAnyU_take2 (i := 17) (v := _) rfl (by kernel_rfl) (by kernel_rfl) (by kernel_rfl) (by kernel_rfl) (fun _ _ _ h => h) (.inl ⟨by kernel_rfl, fun w' hS => by go_simp; rfl⟩) hS ?_
    refine wpAnyU_take2 (i := 18) (v := .agg (recL ⟨R1, none, 0, a1, d1⟩).toArray) rfl (by kernel_rfl) (by kernel_rfl) (by kernel_rfl) (by kernel_rfl) (fun _ _ _ h => h) (yieldsIf_load_mid (by kernel_rfl) 40 (.tmp 8) rfl (w7.heap.size) 0 rfl (recL ⟨R1, none, 0, a1, d1⟩) _ (fun w' hS => Blk.range8 (Ba.out.fr hS id)) Tryd.underlying40 rfl (by kernel_rfl)) hS ?_
    refine wpAnyU_take2 (i := 19) (v := .agg (recL ⟨R1, none, 0, b1, e1⟩).toArray) rfl (by kernel_rfl) (by kernel_rfl) (by kernel_rfl) (by kernel_rfl) (fun _ _ _ h => h) (yieldsIf_load_mid (by kernel_rfl) 40 (.tmp 11) rfl (w9.heap.size) 0 rfl (recL ⟨R1, none, 0, b1, e1⟩) _ (fun w' hS => Blk.range8 (Bc.out.fr hS id)) Tryd.underlying40 rfl (by kernel_rfl)) hS ?_
    refine wpAnyU_oneG (i := 20) rfl (by kernel_rfl) (by kernel_rfl) ?_
    go_simp
    refine (same4_ok R1 none 0 a1 d1 none 0 b1 e1 _ (Y1.out.keep hS).reads (Y3.out.keep hS).reads (by rw [Y1.out.rows]; exact Nat.zero_le _) Y1.out.len).mono ?_
    rintro e wq4 ⟨rfl, hf⟩
    replace hS : Fr none_ w14 wq4 := Fr.then_none hS hf
    refine ⟨hS, ?_⟩
    clear hf
    refine wpAnyU_take2 (i := 21) (v := _) rfl (by kernel_rfl) (by kernel_rfl) (by kernel_rfl) (by kernel_rfl) (fun _ _ _ h => h) (.inl ⟨by kernel_rfl, fun w' hS => by go_simp; rfl⟩) hS ?_
    refine wpAnyU_take2 (i := 22) (v := _) rfl (by kernel_rfl) (by kernel_rfl) (by kernel_rfl) (by kernel_rfl) (fun _ _ _ h => h) (.inl ⟨by kernel_rfl, fun w' hS => by go_simp; rfl⟩) hS ?_
    refine wpAnyU_take2 (i := 23) (v := .agg (recL ⟨R2, none, 0, a2, d2⟩).toArray) rfl (by kernel_rfl) (by kernel_rfl) (by kernel_rfl) (by kernel_rfl) (fun _ _ _ h => h) (yieldsIf_load_mid (by kernel_rfl) 40 (.tmp 9) rfl (w7.heap.size + 1) 0 rfl (recL ⟨R2, none, 0, a2, d2⟩) _ (fun w' hS => Blk.range8 (Bb.out.fr hS id)) Tryd.underlying40 rfl (by kernel_rfl)) hS ?_
    refine wpAnyU_take2 (i := 24) (v := .agg (recL ⟨R2, none, 0, b2, e2⟩).toArray) rfl (by kernel_rfl) (by kernel_rfl) (by kernel_rfl) (by kernel_rfl) (fun _ _ _ h => h) (yieldsIf_load_mid (by kernel_rfl) 40 (.tmp 12) rfl (w9.heap.size + 1) 0 rfl (recL ⟨R2, none, 0, b2, e2⟩) _ (fun w' hS => Blk.range8 (Bd.out.fr hS id)) Tryd.underlying40 rfl (by kernel_rfl)) hS ?_
    refine wpAnyU_oneG (i := 25) rfl (by kernel_rfl) (by kernel_rfl) ?_
    go_simp
    refine (same4_ok R2 none 0 a2 d2 none 0 b2 e2 _ (Y2.out.keep hS).reads (Y4.out.keep hS).reads (by rw [Y2.out.rows]; exact Nat.zero_le _) Y2.out.len).mono ?_
    rintro e wq5 ⟨rfl, hf⟩
    replace hS : Fr none_ w14 wq5 := Fr.then_none hS hf
    refine ⟨hS, ?_⟩
    clear hf
    refine wpAnyU_take2 (i := 26) (v := _) rfl (by kernel_rfl) (by kernel_rfl) (by kernel_rfl) (by kernel_rfl) (fun _ _ _ h => h) (.inl ⟨by kernel_rfl, fun w' hS => by go_simp; rfl⟩) hS ?_
    refine wpAnyU_take2 (i := 27) (v := _) rfl (by kernel_rfl) (by kernel_rfl) (by kernel_rfl) (by kernel_rfl) (fun _ _ _ h => h) (.inl ⟨by kernel_rfl, fun w' hS => by go_simp; rfl⟩) hS ?_
    refine wpAnyU_take2 (i := 28) (v := .agg (recL ⟨R3, none, 0, a3, d3⟩).toArray) rfl (by kernel_rfl) (by kernel_rfl) (by kernel_rfl) (by kernel_rfl) (fun _ _ _ h => h) (yieldsIf_load_mid (by kernel_rfl) 40 (.tmp 14) rfl (w11.heap.size) 0 rfl (recL ⟨R3, none, 0, a3, d3⟩) _ (fun w' hS => Blk.range8 (Be.out.fr hS id)) Tryd.underlying40 rfl (by kernel_rfl)) hS ?_
    refine wpAnyU_take2 (i := 29) (v := .agg (recL ⟨R3, none, 0, b3, e3⟩).toArray) rfl (by kernel_rfl) (by kernel_rfl) (by kernel_rfl) (by kernel_rfl) (fun _ _ _ h => h) (yieldsIf_load_mid (by kernel_rfl) 40 (.tmp 18) rfl (w13.heap.size) 0 rfl (recL ⟨R3, none, 0, b3, e3⟩) _ (fun w' hS => Blk.range8 (Bh.out.fr hS id)) Tryd.underlying40 rfl (by kernel_rfl)) hS ?_
    refine wpAnyU_oneG (i := 30) rfl (by kernel_rfl) (by kernel_rfl) ?_
    go_simp
    refine (same4_ok R3 none 0 a3 d3 none 0 b3 e3 _ (Y5.out.keep hS).reads (Y8.out.keep hS).reads (by rw [Y5.out.rows]; exact Nat.zero_le _) Y5.out.len).mono ?_
    rintro e wq6 ⟨rfl, hf⟩
    replace hS : Fr none_ w14 wq6 := Fr.then_none hS hf
    refine ⟨hS, ?_⟩
    clear hf
    refine wpAnyU_take2 (i := 31) (v := _) rfl (by kernel_rfl) (by kernel_rfl) (by kernel_rfl) (by kernel_rfl) (fun _ _ _ h => h) (.inl ⟨by kernel_rfl, fun w' hS => by go_simp; rfl⟩) hS ?_
    refine wpAnyU_take2 (i := 32) (v := _) rfl (by kernel_rfl) (by kernel_rfl) (by kernel_rfl) (by kernel_rfl) (fun _ _ _ h => h) (.inl ⟨by kernel_rfl, fun w' hS => by go_simp; rfl⟩) hS ?_
    refine wpAnyU_take2 (i := 33) (v := .agg (recL ⟨R4, none, 0, a4, d4⟩).toArray) rfl (by kernel_rfl) (by kernel_rfl) (by kernel_rfl) (by kernel_rfl) (fun _ _ _ h => h) (yieldsIf_load_mid (by kernel_rfl) 40 (.tmp 15) rfl (w11.heap.size + 1) 0 rfl (recL ⟨R4, none, 0, a4, d4⟩) _ (fun w' hS => Blk.range8 (Bf.out.fr hS id)) Tryd.underlying40 rfl (by kernel_rfl)) hS ?_
    refine wpAnyU_take2 (i := 34) (v := .agg (recL ⟨R4, none, 0, b4, e4⟩).toArray) rfl (by kernel_rfl) (by kernel_rfl) (by kernel_rfl) (by kernel_rfl) (fun _ _ _ h => h) (yieldsIf_load_mid (by kernel_rfl) 40 (.tmp 19) rfl (w13.heap.size + 1) 0 rfl (recL ⟨R4, none, 0, b4, e4⟩) _ (fun w' hS => Blk.range8 (Bi.out.fr hS id)) Tryd.underlying40 rfl (by kernel_rfl)) hS ?_
    refine wpAnyU_oneG (i := 35) rfl (by kernel_rfl) (by kernel_rfl) ?_
    go_simp
    refine (same4_ok R4 none 0 a4 d4 none 0 b4 e4 _ (Y6.out.keep hS).reads (Y9.out.keep hS).reads (by rw [Y6.out.rows]; exact Nat.zero_le _) Y6.out.len).mono ?_
    rintro e wq7 ⟨rfl, hf⟩
    replace hS : Fr none_ w14 wq7 := Fr.then_none hS hf
    refine ⟨hS, ?_⟩
    clear hf
    refine wpAnyU_take2 (i := 36) (v := _) rfl (by kernel_rfl) (by kernel_rfl) (by kernel_rfl) (by kernel_rfl) (fun _ _ _ h => h) (.inl ⟨by kernel_rfl, fun w' hS => by go_simp; rfl⟩) hS ?_
    refine wpAnyU_take2 (i := 37) (v := _) rfl (by kernel_rfl) (by kernel_rfl) (by kernel_rfl) (by kernel_rfl) (fun _ _ _ h => h) (.inl ⟨by kernel_rfl, fun w' hS => by go_simp; rfl⟩) hS ?_
    refine wpAnyU_take2 (i := 38) (v := .agg (recL ⟨R5, none, 0, a5, d5⟩).toArray) rfl (by kernel_rfl) (by kernel_rfl) (by kernel_rfl) (by kernel_rfl) (fun _ _ _ h => h) (yieldsIf_load_mid (by kernel_rfl) 40 (.tmp 16) rfl (w11.heap.size + 1 + 1) 0 rfl (recL ⟨R5, none, 0, a5, d5⟩) _ (fun w' hS => Blk.range8 (Bg.out.fr hS id)) Tryd.underlying40 rfl (by kernel_rfl)) hS ?_
    refine wpAnyU_take2 (i := 39) (v := .agg (recL ⟨R5, none, 0, b5, e5⟩).toArray) rfl (by kernel_rfl) (by kernel_rfl) (by kernel_rfl) (by kernel_rfl) (fun _ _ _ h => h) (yieldsIf_load_mid (by kernel_rfl) 40 (.tmp 20) rfl (w13.heap.size + 1 + 1) 0 rfl (recL ⟨R5, none, 0, b5, e5⟩) _ (fun w' hS => Blk.range8 (Bj.out.fr hS id)) Tryd.underlying40 rfl (by kernel_rfl)) hS ?_
    refine wpAnyU_oneG (i := 40) rfl (by kernel_rfl) (by kernel_rfl) ?_
    go_simp
    refine (same4_ok R5 none 0 a5 d5 none 0 b5 e5 _ (Y7.out.keep hS).reads (Y10.out.keep hS).reads (by rw [Y7.out.rows]; exact Nat.zero_le _) Y7.out.len).mono ?_
    rintro e wq8 ⟨rfl, hf⟩
    replace hS : Fr none_ w14 wq8 := Fr.then_none hS hf
    refine ⟨hS, ?_⟩
    clear hf
    refine wpAnyU_take2 (i := 41) (v := _) rfl (by kernel_rfl) (by kernel_rfl) (by kernel_rfl) (by kernel_rfl) (fun _ _ _ h => h) (.inl ⟨by kernel_rfl, fun w' hS => by go_simp; rfl⟩) hS ?_
    refine wpAnyU_take2 (i := 42) (v := _) rfl (by kernel_rfl) (by kernel_rfl) (by kernel_rfl) (by kernel_rfl) (fun _ _ _ h => h) (.inl ⟨by kernel_rfl, fun w' hS => by go_simp; rfl⟩) hS ?_
    refine wpAnyU_take2 (i := 43) (v := .agg [.string V.low, .string V.high, .bool V.unb, .int .i64 V.right, .slice A2 V.ents.length c2, .bool V.held, .int .i64 V.hp, .int .i64 V.hl, .string V.hk].toArray) rfl (by kernel_rfl) (by kernel_rfl) (by kernel_rfl) (by kernel_rfl) (fun _ _ _ h => h) (yieldsIf_load_mid (by kernel_rfl) 57 (.tmp 7) rfl (w5.heap.size) 0 rfl [.string V.low, .string V.high, .bool V.unb, .int .i64 V.right, .slice A2 V.ents.length c2, .bool V.held, .int .i64 V.hp, .int .i64 V.hl, .string V.hk] _ (fun w' hS => Blk.range8 (BX.out.fr hS id)) Tryd.underlying57 rfl (by kernel_rfl)) hS ?_
    refine wpAnyU_take2 (i := 45) (v := .agg [.string V.low, .string V.high, .bool V.unb, .int .i64 V.right, .slice A V.ents.length c, .bool V.held, .int .i64 V.hp, .int .i64 V.hl, .string V.hk].toArray) rfl (by kernel_rfl) (by kernel_rfl) (by kernel_rfl) (by kernel_rfl) (fun _ _ _ h => h) (yieldsIf_load_mid (by kernel_rfl) 52 (.tmp 3) rfl (w.heap.size) 0 rfl [.string V.low, .string V.high, .bool V.unb, .int .i64 V.right, .slice A V.ents.length c, .bool V.held, .int .i64 V.hp, .int .i64 V.hl, .string V.hk] _ (fun w' hS => Blk.range8 (BV.out.fr hS id)) Tryd.underlying52 rfl (by kernel_rfl)) hS ?_
    refine wpAnyU_oneG (i := 44) rfl (by kernel_rfl) (by kernel_rfl) ?_
    go_simp
    refine (view_ok V A2 c2 _).mono ?_
    rintro e wq9 ⟨rfl, hf⟩
    replace hS : Fr none_ w14 wq9 := Fr.then_none hS hf
    refine ⟨hS, ?_⟩
    clear hf
    refine wpAnyU_oneG (i := 46) rfl (by kernel_rfl) (by kernel_rfl) ?_
    go_simp
    refine (same8_ok V A2 A c2 c _ (X5.out.keep hS).rd (VI.out.keep hS).rd (by omega)).mono ?_
    rintro e wq10 ⟨rfl, hf⟩
    replace hS : Fr none_ w14 wq10 := Fr.then_none hS hf
    refine ⟨hS, ?_⟩
    clear hf
    refine wpAnyU_take2 (i := 47) (v := _) rfl (by kernel_rfl) (by kernel_rfl) (by kernel_rfl) (by kernel_rfl) (fun _ _ _ h => h) (.inl ⟨by kernel_rfl, fun w' hS => by go_simp; rfl⟩) hS ?_
    refine wpAnyU_take2 (i := 48) (v := _) rfl (by kernel_rfl) (by kernel_rfl) (by kernel_rfl) (by kernel_rfl) (fun _ _ _ h => h) (.inl ⟨by kernel_rfl, fun w' hS => by go_simp; rfl⟩) hS ?_
    refine wpAnyU_oneG (i := 49) rfl (by kernel_rfl) (by kernel_rfl) ?_
    go_simp
    refine (awake8 _).mono ?_
    rintro e wq11 ⟨rfl, hf⟩
    replace hS : Fr none_ w14 wq11 := Fr.then_none hS hf
    refine ⟨hS, ?_⟩
    clear hf
    refine wpAnyU_take2 (i := 50) (v := _) rfl (by kernel_rfl) (by kernel_rfl) (by kernel_rfl) (by kernel_rfl) (fun _ _ _ h => h) (.inl ⟨by kernel_rfl, fun w' hS => by go_simp; rfl⟩) hS ?_
    refine wpAnyU_take2 (i := 51) (v := _) rfl (by kernel_rfl) (by kernel_rfl) (by kernel_rfl) (by kernel_rfl) (fun _ _ _ h => h) (.inl ⟨by kernel_rfl, fun w' hS => by go_simp; rfl⟩) hS ?_
    refine wpAnyU_done (by kernel_rfl) ?_ _
    have FS := hid_ hS
    go_wp2_with fail
    go_ret
    exact ⟨rfl, F.out.then_none FS.out⟩
theorem blds8_walk_i {H : Type} {enc : TypeId × Value → H} (x0 x1 : ByteArray) (x2 : Bool) (x3 : Int) (x4 : Value) (x5 : Bool) (x6 x7 : Int) (x8 : ByteArray) (left right : Int) (w : World) (h0 : x0.size ≤ reachBytes) (h1 : x1.size ≤ reachBytes) (h4 : Conf enc Tryd.prog w (.slice 34) x4) (h8 : x8.size ≤ reachBytes) (hL : Laid w) :
    Calls Tryd.prog 6 #[.agg #[.string x0, .string x1, .bool x2, .int .i64 x3, x4, .bool x5, .int .i64 x6, .int .i64 x7, .string x8], .int .i64 left, .int .i64 right] w fun e w' => e = .returned (.bool true) ∧ Fr none_ w w' := by
  obtain ⟨A, c, L, rfl, hV⟩ := any_of (x2 := x2) (x3 := x3) (x5 := x5) (x6 := x6) (x7 := x7) h0 h1 h4 h8
  exact blds8_walk ⟨x0, x1, x2, x3, L, x5, x6, x7, x8⟩ A c left right w hV hL
end Go.Proofs.YtfoljojacakkeaaDoor

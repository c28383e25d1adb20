/- The document's Grow, where it can. Written by gen_builds8.py. -/
import Derived.Test.YtfoljojacakkeaaDoorDocD8
namespace Go.Proofs.YtfoljojacakkeaaDoor
open Go.RowKit Go.BigFrame Go.ChangeShapes Go.WideShapes
set_option maxRecDepth 100000
set_option linter.unusedVariables false

set_option maxHeartbeats 16000000 in
theorem rgrow_yes (V : Vw) (left right : Int) (A : Option Addr) (c : Nat) (w : World) (h : VwIn w V A c) (hk : whyI V = 0) :
    Calls Tryd.prog 35 #[vwV V (.slice A V.ents.length c), .int .i64 left, .int .i64 right] w (RGrowPost V left right w) := by
  have HOL := hid_ (fun (h0 : 0 < V.ents.length) => h.rd.old (by decide) h0)
  have h1000 := h.ok.ents.1
  have hcapx := h.cap
  have hcmx := h.capm
  unfold maxLen at hcmx
  obtain ⟨w0, hw0⟩ : ∃ z, z = (((w.alloc (.cells (vwA V (.slice A V.ents.length c)) 52)).alloc (.cells (recA Rc.zero (.slice none 0 0) (.slice none 0 0)) 40)).alloc (.cells (recA Rc.zero (.slice none 0 0) (.slice none 0 0)) 40)).alloc (.cells (recA Rc.zero (.slice none 0 0) (.slice none 0 0)) 40) := ⟨_, rfl⟩
  have f0 : Fr none_ w w0 := by rw [hw0]; exact ((((Fr.refl none_ w).alloc _).alloc _).alloc _).alloc _
  have BV : Hid (Blk w0 w.heap.size 52 (vwA V (.slice A V.ents.length c))) := hid_ (by rw [hw0]; exact (((Blk.new w _ _).alloc _).alloc _).alloc _)
  have B1 : Hid (Blk w0 (w.heap.size + 1) 40 (recA Rc.zero (.slice none 0 0) (.slice none 0 0))) := hid_ (by rw [hw0]; exact ((Blk.new_at _ _ (by simp)).alloc _).alloc _)
  have B2 : Hid (Blk w0 (w.heap.size + 1 + 1) 40 (recA Rc.zero (.slice none 0 0) (.slice none 0 0))) := hid_ (by rw [hw0]; exact (Blk.new_at _ _ (by simp)).alloc _)
  have B3 : Hid (Blk w0 (w.heap.size + 1 + 1 + 1) 40 (recA Rc.zero (.slice none 0 0) (.slice none 0 0))) := hid_ (by rw [hw0]; exact Blk.new_at _ _ (by simp))
  have H := hid_ (h.keep f0)
  have F := hid_ f0
  have hlast : w.heap.size + 1 + 1 + 1 < w0.heap.size := B3.out.lt
  clear f0
  go_enter Tryd.func35, Tryd.ntmps35
  go_upto_region 1 with fail
  change Code.wp _ _ _ _ ((((w.alloc (.cells (vwA V (.slice A V.ents.length c)) 52)).alloc (.cells (recA Rc.zero (.slice none 0 0) (.slice none 0 0)) 40)).alloc (.cells (recA Rc.zero (.slice none 0 0) (.slice none 0 0)) 40)).alloc (.cells (recA Rc.zero (.slice none 0 0) (.slice none 0 0)) 40))
  rw [← hw0]
  clear hw0
  clear h
  have v0 : w0.cell? ⟨w.heap.size, 0, none⟩ = some (.string V.low) := BV.out.cell' rfl
  have v1 : w0.cell? ⟨w.heap.size, 1, none⟩ = some (.string V.high) := BV.out.cell' rfl
  have v2 : w0.cell? ⟨w.heap.size, 2, none⟩ = some (.bool V.unb) := BV.out.cell' rfl
  have v3 : w0.cell? ⟨w.heap.size, 3, none⟩ = some (.int .i64 V.right) := BV.out.cell' rfl
  have v4 : w0.cell? ⟨w.heap.size, 4, none⟩ = some (.slice A V.ents.length c) := BV.out.cell' rfl
  have v5 : w0.cell? ⟨w.heap.size, 5, none⟩ = some (.bool V.held) := BV.out.cell' rfl
  have v6 : w0.cell? ⟨w.heap.size, 6, none⟩ = some (.int .i64 V.hp) := BV.out.cell' rfl
  have v7 : w0.cell? ⟨w.heap.size, 7, none⟩ = some (.int .i64 V.hl) := BV.out.cell' rfl
  have v8 : w0.cell? ⟨w.heap.size, 8, none⟩ = some (.string V.hk) := BV.out.cell' rfl
  go_wp2_with fail
  refine (why_ok V A c _).mono ?_
  rintro e w1 ⟨rfl, hf⟩
  replace H := hid_ (H.out.keep hf)
  replace F := hid_ (F.out.then_none hf)
  replace BV := hid_ (BV.out.fr hf id)
  replace B1 := hid_ (B1.out.fr hf id)
  replace B2 := hid_ (B2.out.fr hf id)
  replace B3 := hid_ (B3.out.fr hf id)
  clear hf
  clear v0 v1 v2 v3 v4 v5 v6 v7 v8
  have hd : (whyI V != 0) = false := by simp [hk]
  obtain ⟨hh, h2⟩ := whyI_yes hk
  clear hk
  · skip
    obtain ⟨n, hn⟩ : ∃ n : Nat, (V.ents.length : Int) / 2 = n := ⟨V.ents.length / 2, by omega⟩
    have hnn : n = V.ents.length / 2 := by omega
    obtain ⟨q, hq⟩ := some_of_lt (L := V.ents) (i := n) (by omega)
    obtain ⟨b, off, rfl, hb, c0, c1⟩ := et_at H.out.rd hq
    obtain ⟨A5, hA5⟩ : ∃ A5, (if c = n then (some (⟨b, off, none⟩ : Addr)) else Option.map (fun x : Addr => x.add (n * 2)) (some (⟨b, off, none⟩ : Addr))) = A5 := ⟨_, rfl⟩
    have HL := hid_ (fun r => half_len hnn H.out h2 hq hA5 r)
    have HN := hid_ (And.intro hnn (And.intro hq (And.intro h2 hh)))
    have hnl : n < V.ents.length := by omega
    have hi1 : (n : Int) < (V.ents.length : Int) := by omega
    have hi0 : (0 : Int) ≤ (n : Int) := Int.natCast_nonneg _
    have hA5' : (if c = n then (some (⟨b, off, none⟩ : Addr)) else some ⟨b, off + n * 2, none⟩) = A5 := by
      rw [← hA5]
      split
      · rfl
      · simp [add_lit]
    have hbw : b < w.heap.size := HOL.out (by omega) _ rfl
    have h5b : ∀ ad, A5 = some ad → ad.block = b := by
      intro ad had
      rw [← hA5'] at had
      split at had
      · obtain rfl := Option.some.inj had; rfl
      · obtain rfl := Option.some.inj had; rfl
    have H5B := hid_ h5b
    clear hnn hq h2 hA5 hh h5b
    have v4 : w1.cell? ⟨w.heap.size, 4, none⟩ = some (.slice (some ⟨b, off, none⟩) V.ents.length c) := BV.out.cell' rfl
    go_upto_region 5 with fail
    clear v4 c0 c1 hd
    obtain ⟨Tk, hTk⟩ : ∃ T, T = V.ents.take n := ⟨_, rfl⟩
    have htl : Tk.length = n := by rw [hTk]; simp; omega
    have HTL := hid_ htl
    have HTK := hid_ hTk
    clear htl hTk
    have hb31 := B3.out.lt
    have hs1 := F.out.size
    have FW1 := hid_ (Fr.refl none_ w1)
    go_cut [12] (fun u wq => ∃ g : Nat, u = .pointer (some ⟨g, 0, none⟩) ∧ w1.heap.size ≤ g ∧ Blk wq g 40 (recL ⟨baseR ({ low := V.low, high := q.1, unb := false, right := right, ents := Tk, held := V.held, hp := V.hp, hl := V.hl, hk := V.hk } : Vw), none, 0, some ⟨b, off, none⟩, c⟩).toArray ∧ Fr none_ w1 wq)
    case first =>
      have v0 : w1.cell? ⟨w.heap.size, 0, none⟩ = some (.string V.low) := BV.out.cell' rfl
      have v4 : w1.cell? ⟨w.heap.size, 4, none⟩ = some (.slice (some ⟨b, off, none⟩) V.ents.length c) := BV.out.cell' rfl
      have hS : (fun w' : World => Fr none_ w1 w') w1.drew := (Fr.refl none_ w1).drew
      refine wp_region_U (m := 11) (S := (fun w' : World => Fr none_ w1 w')) (by kernel_rfl) ?_
      refine wpAnyU_take2 (i := 0) (v := _) rfl (by kernel_rfl) (by kernel_rfl) (by kernel_rfl) (by kernel_rfl) (fun _ _ _ h => h) (.inl ⟨by kernel_rfl, fun w' hS => by go_simp; rfl⟩) hS ?_
      refine wpAnyU_take2 (i := 1) (v := _) rfl (by kernel_rfl) (by kernel_rfl) (by kernel_rfl) (by kernel_rfl) (fun _ _ _ h => h) (.inl ⟨by kernel_rfl, fun w' hS => by have s_ := cellFr v0 hS; go_simp; rfl⟩) hS ?_
      refine wpAnyU_take2 (i := 2) (v := _) rfl (by kernel_rfl) (by kernel_rfl) (by kernel_rfl) (by kernel_rfl) (fun _ _ _ h => h) (.inl ⟨by kernel_rfl, fun w' hS => by go_simp; rfl⟩) hS ?_
      refine wpAnyU_take2 (i := 3) (v := _) rfl (by kernel_rfl) (by kernel_rfl) (by kernel_rfl) (by kernel_rfl) (fun _ _ _ h => h) (.inl ⟨by kernel_rfl, fun w' hS => by go_simp; rfl⟩) hS ?_
      refine wpAnyU_take2 (i := 4) (v := _) rfl (by kernel_rfl) (by kernel_rfl) (by kernel_rfl) (by kernel_rfl) (fun _ _ _ h => h) (.inl ⟨by kernel_rfl, fun w' hS => by go_simp; rfl⟩) hS ?_
      refine wpAnyU_take2 (i := 5) (v := _) rfl (by kernel_rfl) (by kernel_rfl) (by kernel_rfl) (by kernel_rfl) (fun _ _ _ h => h) (.inl ⟨by kernel_rfl, fun w' hS => by have s_ := cellFr v4 hS; go_simp; rfl⟩) hS ?_
      refine wpAnyU_take2 (i := 6) (v := _) rfl (by kernel_rfl) (by kernel_rfl) (by kernel_rfl) (by kernel_rfl) (fun _ _ _ h => h) (.inl ⟨by kernel_rfl, fun w' hS => by go_simp; rfl⟩) hS ?_
      refine wpAnyU_take2 (i := 7) (v := _) rfl (by kernel_rfl) (by kernel_rfl) (by kernel_rfl) (by kernel_rfl) (fun _ _ _ h => h) (.inl ⟨by kernel_rfl, fun w' hS => by have s_n := hi1; have s_0 := hi0; have s_c : (n : Int) ≤ (V.ents.length : Int) := (by omega); have s_d : (n : Int) ≤ (c : Int) := (by omega); go_simp; rfl⟩) hS ?_
      refine wpAnyU_take2 (i := 8) (v := _) rfl (by kernel_rfl) (by kernel_rfl) (by kernel_rfl) (by kernel_rfl) (fun _ _ _ h => h) (.inl ⟨by kernel_rfl, fun w' hS => by go_simp; rfl⟩) hS ?_
      clear v0 v4
      refine wpAnyU_two (i := 9) (j := 10) rfl rfl rfl rfl (by kernel_rfl) ?_ ?_
      · go_simp
        rw [show (.slice (some ⟨b, off, none⟩) n c : Value) = .slice (some ⟨b, off, none⟩) Tk.length c by rw [HTL.out]]
        refine (rbase_ok ({ low := V.low, high := q.1, unb := false, right := right, ents := Tk, held := false, hp := 0, hl := 0, hk := nilS } : Vw) (some ⟨b, off, none⟩) c _).mono ?_
        rintro e w3 ⟨rfl, hf⟩
        have fS := ((Fr.refl none_ w1).drew).then_none hf
        refine ⟨fS, ?_⟩
        have hb2 : w1.heap.size ≤ w3.heap.size := fS.size
        refine wpAnyU_oneG (i := 10) rfl (by kernel_rfl) (by kernel_rfl) ?_
        go_simp
        refine ⟨fS.alloc _, ?_⟩
        obtain ⟨w4, hw4⟩ : ∃ z, z = w3.alloc (.cells (recA Rc.zero (.slice none 0 0) (.slice none 0 0)) 40) := ⟨_, rfl⟩
        have f4 : Fr none_ w3 w4 := by rw [hw4]; exact (Fr.refl none_ w3).alloc _
        have BT : Hid (Blk w4 w3.heap.size 40 (recA Rc.zero (.slice none 0 0) (.slice none 0 0))) := hid_ (by rw [hw4]; exact Blk.new w3 _ _)
        replace fS := fS.then_none f4
        change wpAnyU _ _ _ _ _ _ _ _ _ (w3.alloc (.cells (recA Rc.zero (.slice none 0 0) (.slice none 0 0)) 40))
        rw [← hw4]
        clear hw4 f4
        refine wpAnyU_oneG (i := 11) rfl (by kernel_rfl) (by kernel_rfl) ?_
        refine wp_store_mid 40 (.tmp 12) (.tmp 44) rfl (w3.heap.size) 0 (recL ⟨baseR ({ low := V.low, high := q.1, unb := false, right := right, ents := Tk, held := V.held, hp := V.hp, hl := V.hl, hk := V.hk } : Vw), none, 0, some ⟨b, off, none⟩, c⟩).toArray rfl rfl (BT.out.there0 rfl) rec_size8 (rec_one ⟨baseR ({ low := V.low, high := q.1, unb := false, right := right, ents := Tk, held := V.held, hp := V.hp, hl := V.hl, hk := V.hk } : Vw), none, 0, some ⟨b, off, none⟩, c⟩) ?_
        refine ⟨.inl (by decide), ?_⟩
        obtain ⟨w5, hw5⟩ : ∃ z, z = w4.setCells (w3.heap.size) 0 (recL ⟨baseR ({ low := V.low, high := q.1, unb := false, right := right, ents := Tk, held := V.held, hp := V.hp, hl := V.hl, hk := V.hk } : Vw), none, 0, some ⟨b, off, none⟩, c⟩) := ⟨_, rfl⟩
        have ov := Blk.over BT.out (recL ⟨baseR ({ low := V.low, high := q.1, unb := false, right := right, ents := Tk, held := V.held, hp := V.hp, hl := V.hl, hk := V.hk } : Vw), none, 0, some ⟨b, off, none⟩, c⟩) rfl
        rw [← hw5] at ov
        have fS5 := fS.then_only ov.2 (.inr hb2)
        have Q5 := hid_ ov.1
        change wpAnyU _ _ _ _ _ _ _ _ _ (w4.setCells (w3.heap.size) 0 (recL ⟨baseR ({ low := V.low, high := q.1, unb := false, right := right, ents := Tk, held := V.held, hp := V.hp, hl := V.hl, hk := V.hk } : Vw), none, 0, some ⟨b, off, none⟩, c⟩))
        rw [← hw5]
        clear hw5 ov
        refine wpAnyU_done (by kernel_rfl) ?_ _
        go_wp2_with fail
        go_meet
        exact ⟨_, rfl, hb2, Q5.out, fS5⟩
      · go_simp
        refine ⟨((Fr.refl none_ w1).alloc _).drew, ?_⟩
        obtain ⟨w2, hw2⟩ : ∃ z, z = (w1.alloc (.cells (recA Rc.zero (.slice none 0 0) (.slice none 0 0)) 40)).drew := ⟨_, rfl⟩
        have f2 : Fr none_ w1 w2 := by rw [hw2]; exact ((Fr.refl none_ w1).alloc _).drew
        have BT : Hid (Blk w2 w1.heap.size 40 (recA Rc.zero (.slice none 0 0) (.slice none 0 0))) := hid_ (by rw [hw2]; exact (Blk.new w1 _ _).drew)
        change wpAnyU _ _ _ _ _ _ _ _ _ ((w1.alloc (.cells (recA Rc.zero (.slice none 0 0) (.slice none 0 0)) 40)).drew)
        rw [← hw2]
        clear hw2
        refine wpAnyU_oneG (i := 9) rfl (by kernel_rfl) (by kernel_rfl) ?_
        go_simp
        rw [show (.slice (some ⟨b, off, none⟩) n c : Value) = .slice (some ⟨b, off, none⟩) Tk.length c by rw [HTL.out]]
        refine (rbase_ok ({ low := V.low, high := q.1, unb := false, right := right, ents := Tk, held := false, hp := 0, hl := 0, hk := nilS } : Vw) (some ⟨b, off, none⟩) c _).mono ?_
        rintro e w3 ⟨rfl, hf⟩
        have fS := (f2).then_none hf
        refine ⟨fS, ?_⟩
        have hb2 : w1.heap.size ≤ w1.heap.size := Nat.le_refl _
        replace BT := hid_ (BT.out.fr hf id)
        refine wpAnyU_oneG (i := 11) rfl (by kernel_rfl) (by kernel_rfl) ?_
        refine wp_store_mid 40 (.tmp 12) (.tmp 44) rfl (w1.heap.size) 0 (recL ⟨baseR ({ low := V.low, high := q.1, unb := false, right := right, ents := Tk, held := V.held, hp := V.hp, hl := V.hl, hk := V.hk } : Vw), none, 0, some ⟨b, off, none⟩, c⟩).toArray rfl rfl (BT.out.there0 rfl) rec_size8 (rec_one ⟨baseR ({ low := V.low, high := q.1, unb := false, right := right, ents := Tk, held := V.held, hp := V.hp, hl := V.hl, hk := V.hk } : Vw), none, 0, some ⟨b, off, none⟩, c⟩) ?_
        refine ⟨.inl (by decide), ?_⟩
        obtain ⟨w5, hw5⟩ : ∃ z, z = w3.setCells (w1.heap.size) 0 (recL ⟨baseR ({ low := V.low, high := q.1, unb := false, right := right, ents := Tk, held := V.held, hp := V.hp, hl := V.hl, hk := V.hk } : Vw), none, 0, some ⟨b, off, none⟩, c⟩) := ⟨_, rfl⟩
        have ov := Blk.over BT.out (recL ⟨baseR ({ low := V.low, high := q.1, unb := false, right := right, ents := Tk, held := V.held, hp := V.hp, hl := V.hl, hk := V.hk } : Vw), none, 0, some ⟨b, off, none⟩, c⟩) rfl
        rw [← hw5] at ov
        have fS5 := fS.then_only ov.2 (.inr hb2)
        have Q5 := hid_ ov.1
        change wpAnyU _ _ _ _ _ _ _ _ _ (w3.setCells (w1.heap.size) 0 (recL ⟨baseR ({ low := V.low, high := q.1, unb := false, right := right, ents := Tk, held := V.held, hp := V.hp, hl := V.hl, hk := V.hk } : Vw), none, 0, some ⟨b, off, none⟩, c⟩))
        rw [← hw5]
        clear hw5 ov
        refine wpAnyU_done (by kernel_rfl) ?_ _
        go_wp2_with fail
        go_meet
        exact ⟨_, rfl, hb2, Q5.out, fS5⟩
    case rest =>
      obtain ⟨g1, rfl, hg1, hbl, hf⟩ := hcut
      have hTk := HTK.out
      subst hTk
      have BL := hid_ hbl
      have hgl := hbl.lt
      replace H := hid_ (H.out.keep hf)
      replace F := hid_ (F.out.then_none hf)
      replace FW1 := hid_ (FW1.out.then_none hf)
      replace BV := hid_ (BV.out.fr hf id)
      replace B1 := hid_ (B1.out.fr hf id)
      replace B2 := hid_ (B2.out.fr hf id)
      replace B3 := hid_ (B3.out.fr hf id)
      clear hbl hf
      have v0 : wc.cell? ⟨w.heap.size, 0, none⟩ = some (.string V.low) := BV.out.cell' rfl
      have v1 : wc.cell? ⟨w.heap.size, 1, none⟩ = some (.string V.high) := BV.out.cell' rfl
      have v2 : wc.cell? ⟨w.heap.size, 2, none⟩ = some (.bool V.unb) := BV.out.cell' rfl
      have v3 : wc.cell? ⟨w.heap.size, 3, none⟩ = some (.int .i64 V.right) := BV.out.cell' rfl
      have v4 : wc.cell? ⟨w.heap.size, 4, none⟩ = some (.slice (some ⟨b, off, none⟩) V.ents.length c) := BV.out.cell' rfl
      have v5 : wc.cell? ⟨w.heap.size, 5, none⟩ = some (.bool V.held) := BV.out.cell' rfl
      have v6 : wc.cell? ⟨w.heap.size, 6, none⟩ = some (.int .i64 V.hp) := BV.out.cell' rfl
      have v7 : wc.cell? ⟨w.heap.size, 7, none⟩ = some (.int .i64 V.hl) := BV.out.cell' rfl
      have v8 : wc.cell? ⟨w.heap.size, 8, none⟩ = some (.string V.hk) := BV.out.cell' rfl
      go_wp2_with fail
      refine (rsplit_ok V 0 (some ⟨b, off, none⟩) c _ H.out).mono ?_
      rintro e w4 ⟨R1, R2, E1, d1, E2, d2, k, hsp, rfl, -, hx2, -, hsb2, hf⟩
      obtain rfl : R2 = baseR (rightV V (V.ents.length / 2) q.1) := hsp.yes HN.out.2.2.2 HN.out.2.2.1 (by rw [← HN.out.1]; exact HN.out.2.1)
      have X2 := hid_ hx2
      have S2 := hid_ hsb2
      replace H := hid_ (H.out.keep hf)
      replace F := hid_ (F.out.then_none hf)
      replace FW1 := hid_ (FW1.out.then_none hf)
      replace BV := hid_ (BV.out.fr hf id)
      replace B1 := hid_ (B1.out.fr hf id)
      replace B2 := hid_ (B2.out.fr hf id)
      replace B3 := hid_ (B3.out.fr hf id)
      replace BL := hid_ (BL.out.fr hf id)
      clear hx2 hsb2 hf hsp
      clear v0 v1 v2 v3 v4 v5 v6 v7 v8
      have hs4 := F.out.size
      have hgl4 := BL.out.lt
      have hb34 := B3.out.lt
      go_upto_region 7 with (first | (refine wpList_store_mid rfl 40 (.tmp 13) (.tmp 48) rfl w4.heap.size 0 (recL ⟨R1, none, 0, E1, d1⟩).toArray rfl rfl (((Blk.new w4 _ _).alloc _).there0 rfl) rec_size8 (rec_one ⟨R1, none, 0, E1, d1⟩) ?_; obtain ⟨w5, hw5⟩ : ∃ z, z = ((w4.alloc (.cells (recA Rc.zero (.slice none 0 0) (.slice none 0 0)) 40)).alloc (.cells (recA Rc.zero (.slice none 0 0) (.slice none 0 0)) 40)).setCells w4.heap.size 0 (recL ⟨R1, none, 0, E1, d1⟩) := ⟨_, rfl⟩; have ov := Blk.over ((Blk.new w4 40 (recA Rc.zero (.slice none 0 0) (.slice none 0 0))).alloc (.cells (recA Rc.zero (.slice none 0 0) (.slice none 0 0)) 40)) (recL ⟨R1, none, 0, E1, d1⟩) rfl; have K2 : Hid (Blk w5 (w4.heap.size + 1) 40 (recA Rc.zero (.slice none 0 0) (.slice none 0 0))) := hid_ (by rw [hw5]; exact (Blk.new_at _ _ (by simp)).fr ov.2 (only_ne (by omega))); have FZ : Hid (Fr none_ w4 w5) := hid_ (by rw [hw5]; exact (((Fr.refl none_ w4).alloc _).alloc _).then_only ov.2 (.inr (Nat.le_refl _))); change wpList _ _ _ _ _ (((w4.alloc (.cells (recA Rc.zero (.slice none 0 0) (.slice none 0 0)) 40)).alloc (.cells (recA Rc.zero (.slice none 0 0) (.slice none 0 0)) 40)).setCells w4.heap.size 0 (recL ⟨R1, none, 0, E1, d1⟩)); rw [← hw5]; clear hw5 ov) | (refine wpList_store_mid rfl 40 (.tmp 14) (.tmp 49) rfl (w4.heap.size + 1) 0 (recL ⟨baseR (rightV V (V.ents.length / 2) q.1), none, 0, E2, d2⟩).toArray rfl rfl (K2.out.there0 rfl) rec_size8 (rec_one ⟨baseR (rightV V (V.ents.length / 2) q.1), none, 0, E2, d2⟩) ?_; obtain ⟨w6, hw6⟩ : ∃ z, z = w5.setCells (w4.heap.size + 1) 0 (recL ⟨baseR (rightV V (V.ents.length / 2) q.1), none, 0, E2, d2⟩) := ⟨_, rfl⟩; have ov := Blk.over K2.out (recL ⟨baseR (rightV V (V.ents.length / 2) q.1), none, 0, E2, d2⟩) rfl; rw [← hw6] at ov; replace K2 := hid_ ov.1; replace FZ := hid_ (FZ.out.then_only ov.2 (.inr (by omega))); change wpList _ _ _ _ _ (w5.setCells (w4.heap.size + 1) 0 (recL ⟨baseR (rightV V (V.ents.length / 2) q.1), none, 0, E2, d2⟩)); rw [← hw6]; clear hw6 ov))
      replace H := hid_ (H.out.keep FZ.out)
      replace F := hid_ (F.out.then_none FZ.out)
      replace FW1 := hid_ (FW1.out.then_none FZ.out)
      replace BV := hid_ (BV.out.fr FZ.out id)
      replace B1 := hid_ (B1.out.fr FZ.out id)
      replace B2 := hid_ (B2.out.fr FZ.out id)
      replace B3 := hid_ (B3.out.fr FZ.out id)
      replace BL := hid_ (BL.out.fr FZ.out id)
      replace X2 := hid_ (X2.out.keep FZ.out)
      have hk2 := K2.out.lt
      have hb36 := B3.out.lt
      clear FZ
      have v0 : w6.cell? ⟨w.heap.size, 0, none⟩ = some (.string V.low) := BV.out.cell' rfl
      have v1 : w6.cell? ⟨w.heap.size, 1, none⟩ = some (.string V.high) := BV.out.cell' rfl
      have v2 : w6.cell? ⟨w.heap.size, 2, none⟩ = some (.bool V.unb) := BV.out.cell' rfl
      have v3 : w6.cell? ⟨w.heap.size, 3, none⟩ = some (.int .i64 V.right) := BV.out.cell' rfl
      have v4 : w6.cell? ⟨w.heap.size, 4, none⟩ = some (.slice (some ⟨b, off, none⟩) V.ents.length c) := BV.out.cell' rfl
      have v5 : w6.cell? ⟨w.heap.size, 5, none⟩ = some (.bool V.held) := BV.out.cell' rfl
      have v6 : w6.cell? ⟨w.heap.size, 6, none⟩ = some (.int .i64 V.hp) := BV.out.cell' rfl
      have v7 : w6.cell? ⟨w.heap.size, 7, none⟩ = some (.int .i64 V.hl) := BV.out.cell' rfl
      have v8 : w6.cell? ⟨w.heap.size, 8, none⟩ = some (.string V.hk) := BV.out.cell' rfl
      go_wp2_with fail
      obtain ⟨w7, hw7⟩ : ∃ z, z = w6.alloc (.cells #[.string V.low, .int .i64 left, .string q.1, .int .i64 right] 60) := ⟨_, rfl⟩
      have fw7 : Fr none_ w6 w7 := by rw [hw7]; exact (Fr.refl none_ w6).alloc _
      have BE : Hid (Blk w7 w6.heap.size 60 (#[.string V.low, .int .i64 left, .string q.1, .int .i64 right])) := hid_ (by rw [hw7]; exact Blk.new w6 _ _)
      replace H := hid_ (H.out.keep fw7)
      replace F := hid_ (F.out.then_none fw7)
      replace FW1 := hid_ (FW1.out.then_none fw7)
      replace BV := hid_ (BV.out.fr fw7 id)
      replace B1 := hid_ (B1.out.fr fw7 id)
      replace B2 := hid_ (B2.out.fr fw7 id)
      replace B3 := hid_ (B3.out.fr fw7 id)
      replace BL := hid_ (BL.out.fr fw7 id)
      replace X2 := hid_ (X2.out.keep fw7)
      replace K2 := hid_ (K2.out.fr fw7 id)
      change Calls _ _ _ (w6.alloc (.cells #[.string V.low, .int .i64 left, .string q.1, .int .i64 right] 60)) _
      rw [← hw7]
      clear hw7 fw7
      refine (rbase_ok ({ low := V.low, high := V.high, unb := V.unb, right := V.right, ents := [(V.low, left), (q.1, right)], held := false, hp := 0, hl := 0, hk := nilS } : Vw) (some ⟨w6.heap.size, 0, none⟩) 2 _).mono ?_
      rintro e w8 ⟨rfl, hf⟩
      replace H := hid_ (H.out.keep hf)
      replace F := hid_ (F.out.then_none hf)
      replace FW1 := hid_ (FW1.out.then_none hf)
      replace BV := hid_ (BV.out.fr hf id)
      replace B1 := hid_ (B1.out.fr hf id)
      replace B2 := hid_ (B2.out.fr hf id)
      replace B3 := hid_ (B3.out.fr hf id)
      replace BL := hid_ (BL.out.fr hf id)
      replace X2 := hid_ (X2.out.keep hf)
      replace K2 := hid_ (K2.out.fr hf id)
      replace BE := hid_ (BE.out.fr hf id)
      have hb38 := B3.out.lt
      clear hf
      clear v0 v1 v2 v3 v4 v5 v6 v7 v8
      go_upto_region 8 with (refine wpList_store_mid rfl 40 (.tmp 16) (.tmp 68) rfl w8.heap.size 0 (recL ⟨baseR (topV V q.1 left right), none, 0, some ⟨w6.heap.size, 0, none⟩, 2⟩).toArray rfl rfl ((Blk.new w8 _ _).there0 rfl) rec_size8 (rec_one ⟨baseR (topV V q.1 left right), none, 0, some ⟨w6.heap.size, 0, none⟩, 2⟩) ?_; obtain ⟨w9, hw9⟩ : ∃ z, z = (w8.alloc (.cells (recA Rc.zero (.slice none 0 0) (.slice none 0 0)) 40)).setCells w8.heap.size 0 (recL ⟨baseR (topV V q.1 left right), none, 0, some ⟨w6.heap.size, 0, none⟩, 2⟩) := ⟨_, rfl⟩; have ov := Blk.over (Blk.new w8 40 (recA Rc.zero (.slice none 0 0) (.slice none 0 0))) (recL ⟨baseR (topV V q.1 left right), none, 0, some ⟨w6.heap.size, 0, none⟩, 2⟩) rfl; rw [← hw9] at ov; have K3 := hid_ ov.1; have FZ := hid_ (((Fr.refl none_ w8).alloc (.cells (recA Rc.zero (.slice none 0 0) (.slice none 0 0)) 40)).then_only ov.2 (.inr (Nat.le_refl _))); change wpList _ _ _ _ _ ((w8.alloc (.cells (recA Rc.zero (.slice none 0 0) (.slice none 0 0)) 40)).setCells w8.heap.size 0 (recL ⟨baseR (topV V q.1 left right), none, 0, some ⟨w6.heap.size, 0, none⟩, 2⟩)); rw [← hw9]; clear hw9 ov)
      replace H := hid_ (H.out.keep FZ.out)
      replace F := hid_ (F.out.then_none FZ.out)
      replace FW1 := hid_ (FW1.out.then_none FZ.out)
      replace BV := hid_ (BV.out.fr FZ.out id)
      replace B1 := hid_ (B1.out.fr FZ.out id)
      replace B2 := hid_ (B2.out.fr FZ.out id)
      replace B3 := hid_ (B3.out.fr FZ.out id)
      replace BL := hid_ (BL.out.fr FZ.out id)
      replace X2 := hid_ (X2.out.keep FZ.out)
      replace K2 := hid_ (K2.out.fr FZ.out id)
      replace BE := hid_ (BE.out.fr FZ.out id)
      clear FZ
      have X1 : Hid (RecX w9 (baseR (leftV V n q.1 right)) (some ⟨b, off, none⟩)) := hid_ ⟨(HL.out right).1.rd.none_fr FW1.out, rfl, (HL.out right).1.ok.ents.1⟩
      have X3 := hid_ (top_recx (V := V) (k := q.1) (l := left) (r := right) BE.out)
      have hs9 := F.out.size
      have he := BE.out.lt
      have hk3 := K3.out.lt
      have hS : (fun w' : World => Blk w' g1 40 (recL ⟨baseR (leftV V n q.1 right), none, 0, some ⟨b, off, none⟩, c⟩).toArray ∧ Blk w' (w4.heap.size + 1) 40 (recL ⟨baseR (rightV V (V.ents.length / 2) q.1), none, 0, E2, d2⟩).toArray ∧ Blk w' w8.heap.size 40 (recL ⟨baseR (topV V q.1 left right), none, 0, some ⟨w6.heap.size, 0, none⟩, 2⟩).toArray) w9.drew := ⟨BL.out.drew, K2.out.drew, K3.out.drew⟩
      refine wp_region_U (m := 7) (S := (fun w' : World => Blk w' g1 40 (recL ⟨baseR (leftV V n q.1 right), none, 0, some ⟨b, off, none⟩, c⟩).toArray ∧ Blk w' (w4.heap.size + 1) 40 (recL ⟨baseR (rightV V (V.ents.length / 2) q.1), none, 0, E2, d2⟩).toArray ∧ Blk w' w8.heap.size 40 (recL ⟨baseR (topV V q.1 left right), none, 0, some ⟨w6.heap.size, 0, none⟩, 2⟩).toArray)) (by kernel_rfl) ?_
      refine wpAnyU_take2 (i := 0) (v := _) rfl (by kernel_rfl) (by kernel_rfl) (by kernel_rfl) (by kernel_rfl) (fun _ _ _ h => h) (.inl ⟨by kernel_rfl, fun w' hS => by have sa0 : w'.cell? ⟨g1, 0, none⟩ = some (.int .i64 (baseR (leftV V n q.1 right)).kind) := hS.1.cell' rfl; have sa1 : w'.cell? ⟨g1, 1, none⟩ = some (.string (baseR (leftV V n q.1 right)).low) := hS.1.cell' rfl; have sa2 : w'.cell? ⟨g1, 2, none⟩ = some (.string (baseR (leftV V n q.1 right)).high) := hS.1.cell' rfl; have sa3 : w'.cell? ⟨g1, 3, none⟩ = some (.bool (baseR (leftV V n q.1 right)).unb) := hS.1.cell' rfl; have sa4 : w'.cell? ⟨g1, 4, none⟩ = some (.int .i64 (baseR (leftV V n q.1 right)).right) := hS.1.cell' rfl; have sa5 : w'.cell? ⟨g1, 5, none⟩ = some (.slice none (baseR (leftV V n q.1 right)).rows.length 0) := hS.1.cell' rfl; have sa6 : w'.cell? ⟨g1, 6, none⟩ = some (.slice (some ⟨b, off, none⟩) (baseR (leftV V n q.1 right)).ents.length c) := hS.1.cell' rfl; have sa7 : w'.cell? ⟨g1, 7, none⟩ = some (.string (baseR (leftV V n q.1 right)).key) := hS.1.cell' rfl; have sa8 : w'.cell? ⟨g1, 8, none⟩ = some (.string (baseR (leftV V n q.1 right)).val) := hS.1.cell' rfl; have sa9 : w'.cell? ⟨g1, 9, none⟩ = some (.int .i64 (baseR (leftV V n q.1 right)).page) := hS.1.cell' rfl; have sa10 : w'.cell? ⟨g1, 10, none⟩ = some (.int .i64 (baseR (leftV V n q.1 right)).hpage) := hS.1.cell' rfl; have sa11 : w'.cell? ⟨g1, 11, none⟩ = some (.int .i64 (baseR (leftV V n q.1 right)).hleft) := hS.1.cell' rfl; have sa12 : w'.cell? ⟨g1, 12, none⟩ = some (.string (baseR (leftV V n q.1 right)).hkey) := hS.1.cell' rfl; have sa13 : w'.cell? ⟨g1, 13, none⟩ = some (.int .i64 (baseR (leftV V n q.1 right)).nslot) := hS.1.cell' rfl; have sa14 : w'.cell? ⟨g1, 14, none⟩ = some (.int .i64 (baseR (leftV V n q.1 right)).ngen) := hS.1.cell' rfl; go_simp; rfl⟩) hS ?_
      refine wpAnyU_take2 (i := 1) (v := _) rfl (by kernel_rfl) (by kernel_rfl) (by kernel_rfl) (by kernel_rfl) (fun _ _ _ h => h) (.inl ⟨by kernel_rfl, fun w' hS => by have sb0 : w'.cell? ⟨w4.heap.size + 1, 0, none⟩ = some (.int .i64 (baseR (rightV V (V.ents.length / 2) q.1)).kind) := hS.2.1.cell' rfl; have sb1 : w'.cell? ⟨w4.heap.size + 1, 1, none⟩ = some (.string (baseR (rightV V (V.ents.length / 2) q.1)).low) := hS.2.1.cell' rfl; have sb2 : w'.cell? ⟨w4.heap.size + 1, 2, none⟩ = some (.string (baseR (rightV V (V.ents.length / 2) q.1)).high) := hS.2.1.cell' rfl; have sb3 : w'.cell? ⟨w4.heap.size + 1, 3, none⟩ = some (.bool (baseR (rightV V (V.ents.length / 2) q.1)).unb) := hS.2.1.cell' rfl; have sb4 : w'.cell? ⟨w4.heap.size + 1, 4, none⟩ = some (.int .i64 (baseR (rightV V (V.ents.length / 2) q.1)).right) := hS.2.1.cell' rfl; have sb5 : w'.cell? ⟨w4.heap.size + 1, 5, none⟩ = some (.slice none (baseR (rightV V (V.ents.length / 2) q.1)).rows.length 0) := hS.2.1.cell' rfl; have sb6 : w'.cell? ⟨w4.heap.size + 1, 6, none⟩ = some (.slice E2 (baseR (rightV V (V.ents.length / 2) q.1)).ents.length d2) := hS.2.1.cell' rfl; have sb7 : w'.cell? ⟨w4.heap.size + 1, 7, none⟩ = some (.string (baseR (rightV V (V.ents.length / 2) q.1)).key) := hS.2.1.cell' rfl; have sb8 : w'.cell? ⟨w4.heap.size + 1, 8, none⟩ = some (.string (baseR (rightV V (V.ents.length / 2) q.1)).val) := hS.2.1.cell' rfl; have sb9 : w'.cell? ⟨w4.heap.size + 1, 9, none⟩ = some (.int .i64 (baseR (rightV V (V.ents.length / 2) q.1)).page) := hS.2.1.cell' rfl; have sb10 : w'.cell? ⟨w4.heap.size + 1, 10, none⟩ = some (.int .i64 (baseR (rightV V (V.ents.length / 2) q.1)).hpage) := hS.2.1.cell' rfl; have sb11 : w'.cell? ⟨w4.heap.size + 1, 11, none⟩ = some (.int .i64 (baseR (rightV V (V.ents.length / 2) q.1)).hleft) := hS.2.1.cell' rfl; have sb12 : w'.cell? ⟨w4.heap.size + 1, 12, none⟩ = some (.string (baseR (rightV V (V.ents.length / 2) q.1)).hkey) := hS.2.1.cell' rfl; have sb13 : w'.cell? ⟨w4.heap.size + 1, 13, none⟩ = some (.int .i64 (baseR (rightV V (V.ents.length / 2) q.1)).nslot) := hS.2.1.cell' rfl; have sb14 : w'.cell? ⟨w4.heap.size + 1, 14, none⟩ = some (.int .i64 (baseR (rightV V (V.ents.length / 2) q.1)).ngen) := hS.2.1.cell' rfl; go_simp; rfl⟩) hS ?_
      refine wpAnyU_take2 (i := 2) (v := _) rfl (by kernel_rfl) (by kernel_rfl) (by kernel_rfl) (by kernel_rfl) (fun _ _ _ h => h) (.inl ⟨by kernel_rfl, fun w' hS => by have sc0 : w'.cell? ⟨w8.heap.size, 0, none⟩ = some (.int .i64 (baseR (topV V q.1 left right)).kind) := hS.2.2.cell' rfl; have sc1 : w'.cell? ⟨w8.heap.size, 1, none⟩ = some (.string (baseR (topV V q.1 left right)).low) := hS.2.2.cell' rfl; have sc2 : w'.cell? ⟨w8.heap.size, 2, none⟩ = some (.string (baseR (topV V q.1 left right)).high) := hS.2.2.cell' rfl; have sc3 : w'.cell? ⟨w8.heap.size, 3, none⟩ = some (.bool (baseR (topV V q.1 left right)).unb) := hS.2.2.cell' rfl; have sc4 : w'.cell? ⟨w8.heap.size, 4, none⟩ = some (.int .i64 (baseR (topV V q.1 left right)).right) := hS.2.2.cell' rfl; have sc5 : w'.cell? ⟨w8.heap.size, 5, none⟩ = some (.slice none (baseR (topV V q.1 left right)).rows.length 0) := hS.2.2.cell' rfl; have sc6 : w'.cell? ⟨w8.heap.size, 6, none⟩ = some (.slice (some ⟨w6.heap.size, 0, none⟩) (baseR (topV V q.1 left right)).ents.length 2) := hS.2.2.cell' rfl; have sc7 : w'.cell? ⟨w8.heap.size, 7, none⟩ = some (.string (baseR (topV V q.1 left right)).key) := hS.2.2.cell' rfl; have sc8 : w'.cell? ⟨w8.heap.size, 8, none⟩ = some (.string (baseR (topV V q.1 left right)).val) := hS.2.2.cell' rfl; have sc9 : w'.cell? ⟨w8.heap.size, 9, none⟩ = some (.int .i64 (baseR (topV V q.1 left right)).page) := hS.2.2.cell' rfl; have sc10 : w'.cell? ⟨w8.heap.size, 10, none⟩ = some (.int .i64 (baseR (topV V q.1 left right)).hpage) := hS.2.2.cell' rfl; have sc11 : w'.cell? ⟨w8.heap.size, 11, none⟩ = some (.int .i64 (baseR (topV V q.1 left right)).hleft) := hS.2.2.cell' rfl; have sc12 : w'.cell? ⟨w8.heap.size, 12, none⟩ = some (.string (baseR (topV V q.1 left right)).hkey) := hS.2.2.cell' rfl; have sc13 : w'.cell? ⟨w8.heap.size, 13, none⟩ = some (.int .i64 (baseR (topV V q.1 left right)).nslot) := hS.2.2.cell' rfl; have sc14 : w'.cell? ⟨w8.heap.size, 14, none⟩ = some (.int .i64 (baseR (topV V q.1 left right)).ngen) := hS.2.2.cell' rfl; go_simp; rfl⟩) hS ?_
      replace X1 := hid_ (X1.out.keep (Fr.refl none_ w9).drew)
      replace X2 := hid_ (X2.out.keep (Fr.refl none_ w9).drew)
      replace X3 := hid_ (X3.out.keep (Fr.refl none_ w9).drew)
      replace B1 := hid_ B1.out.drew
      replace B2 := hid_ B2.out.drew
      replace B3 := hid_ B3.out.drew
      replace BL := hid_ BL.out.drew
      replace K2 := hid_ K2.out.drew
      replace K3 := hid_ K3.out.drew
      replace F := hid_ F.out.drew
      clear hS BV BE H
      refine wpAnyU_oneG (i := 3) rfl (by kernel_rfl) (by kernel_rfl) ?_
      refine wp_store_mid 40 (.tmp 6) (.tmp 69) rfl (w.heap.size + 1) 0 (recL ⟨baseR (leftV V n q.1 right), none, 0, some ⟨b, off, none⟩, c⟩).toArray rfl rfl (B1.out.there0 rfl) rec_size8 (rec_one ⟨baseR (leftV V n q.1 right), none, 0, some ⟨b, off, none⟩, c⟩) ?_
      obtain ⟨wz0, hwz0⟩ : ∃ z, z = w9.drew.setCells (w.heap.size + 1) 0 (recL ⟨baseR (leftV V n q.1 right), none, 0, some ⟨b, off, none⟩, c⟩) := ⟨_, rfl⟩
      have ovwz0 := Blk.over B1.out (recL ⟨baseR (leftV V n q.1 right), none, 0, some ⟨b, off, none⟩, c⟩) rfl
      rw [← hwz0] at ovwz0
      change _ ∧ wpAnyU _ _ _ _ _ _ _ _ _ (w9.drew.setCells (w.heap.size + 1) 0 (recL ⟨baseR (leftV V n q.1 right), none, 0, some ⟨b, off, none⟩, c⟩))
      rw [← hwz0]
      clear hwz0
      replace B2 := hid_ (B2.out.fr ovwz0.2 (only_ne (by omega)))
      replace B3 := hid_ (B3.out.fr ovwz0.2 (only_ne (by omega)))
      replace BL := hid_ (BL.out.fr ovwz0.2 (only_ne (by omega)))
      replace K2 := hid_ (K2.out.fr ovwz0.2 (only_ne (by omega)))
      replace K3 := hid_ (K3.out.fr ovwz0.2 (only_ne (by omega)))
      replace B1 := hid_ ovwz0.1
      replace F := hid_ (F.out.then_only ovwz0.2 (.inr (by omega)))
      refine ⟨.inr ⟨BL.out, K2.out, K3.out⟩, ?_⟩
      replace X1 := hid_ (X1.out.other ovwz0.2 (fun ad had _ => by cases had; show b ≠ _; omega))
      replace X2 := hid_ (X2.out.other ovwz0.2 (fun ad had _ => by obtain ⟨a0, ha0, hab⟩ := S2.out ad had; cases ha0; rw [hab]; show b ≠ _; omega))
      replace X3 := hid_ (X3.out.other ovwz0.2 (fun ad had _ => by cases had; show w6.heap.size ≠ _; omega))
      clear ovwz0
      refine wpAnyU_oneG (i := 4) rfl (by kernel_rfl) (by kernel_rfl) ?_
      refine wp_store_mid 40 (.tmp 7) (.tmp 70) rfl (w.heap.size + 1 + 1) 0 (recL ⟨baseR (rightV V (V.ents.length / 2) q.1), none, 0, E2, d2⟩).toArray rfl rfl (B2.out.there0 rfl) rec_size8 (rec_one ⟨baseR (rightV V (V.ents.length / 2) q.1), none, 0, E2, d2⟩) ?_
      obtain ⟨wz1, hwz1⟩ : ∃ z, z = wz0.setCells (w.heap.size + 1 + 1) 0 (recL ⟨baseR (rightV V (V.ents.length / 2) q.1), none, 0, E2, d2⟩) := ⟨_, rfl⟩
      have ovwz1 := Blk.over B2.out (recL ⟨baseR (rightV V (V.ents.length / 2) q.1), none, 0, E2, d2⟩) rfl
      rw [← hwz1] at ovwz1
      change _ ∧ wpAnyU _ _ _ _ _ _ _ _ _ (wz0.setCells (w.heap.size + 1 + 1) 0 (recL ⟨baseR (rightV V (V.ents.length / 2) q.1), none, 0, E2, d2⟩))
      rw [← hwz1]
      clear hwz1
      replace B1 := hid_ (B1.out.fr ovwz1.2 (only_ne (by omega)))
      replace B3 := hid_ (B3.out.fr ovwz1.2 (only_ne (by omega)))
      replace BL := hid_ (BL.out.fr ovwz1.2 (only_ne (by omega)))
      replace K2 := hid_ (K2.out.fr ovwz1.2 (only_ne (by omega)))
      replace K3 := hid_ (K3.out.fr ovwz1.2 (only_ne (by omega)))
      replace B2 := hid_ ovwz1.1
      replace F := hid_ (F.out.then_only ovwz1.2 (.inr (by omega)))
      refine ⟨.inr ⟨BL.out, K2.out, K3.out⟩, ?_⟩
      replace X1 := hid_ (X1.out.other ovwz1.2 (fun ad had _ => by cases had; show b ≠ _; omega))
      replace X2 := hid_ (X2.out.other ovwz1.2 (fun ad had _ => by obtain ⟨a0, ha0, hab⟩ := S2.out ad had; cases ha0; rw [hab]; show b ≠ _; omega))
      replace X3 := hid_ (X3.out.other ovwz1.2 (fun ad had _ => by cases had; show w6.heap.size ≠ _; omega))
      clear ovwz1
      refine wpAnyU_oneG (i := 5) rfl (by kernel_rfl) (by kernel_rfl) ?_
      refine wp_store_mid 40 (.tmp 8) (.tmp 71) rfl (w.heap.size + 1 + 1 + 1) 0 (recL ⟨baseR (topV V q.1 left right), none, 0, some ⟨w6.heap.size, 0, none⟩, 2⟩).toArray rfl rfl (B3.out.there0 rfl) rec_size8 (rec_one ⟨baseR (topV V q.1 left right), none, 0, some ⟨w6.heap.size, 0, none⟩, 2⟩) ?_
      obtain ⟨wz2, hwz2⟩ : ∃ z, z = wz1.setCells (w.heap.size + 1 + 1 + 1) 0 (recL ⟨baseR (topV V q.1 left right), none, 0, some ⟨w6.heap.size, 0, none⟩, 2⟩) := ⟨_, rfl⟩
      have ovwz2 := Blk.over B3.out (recL ⟨baseR (topV V q.1 left right), none, 0, some ⟨w6.heap.size, 0, none⟩, 2⟩) rfl
      rw [← hwz2] at ovwz2
      change _ ∧ wpAnyU _ _ _ _ _ _ _ _ _ (wz1.setCells (w.heap.size + 1 + 1 + 1) 0 (recL ⟨baseR (topV V q.1 left right), none, 0, some ⟨w6.heap.size, 0, none⟩, 2⟩))
      rw [← hwz2]
      clear hwz2
      replace B1 := hid_ (B1.out.fr ovwz2.2 (only_ne (by omega)))
      replace B2 := hid_ (B2.out.fr ovwz2.2 (only_ne (by omega)))
      replace BL := hid_ (BL.out.fr ovwz2.2 (only_ne (by omega)))
      replace K2 := hid_ (K2.out.fr ovwz2.2 (only_ne (by omega)))
      replace K3 := hid_ (K3.out.fr ovwz2.2 (only_ne (by omega)))
      replace B3 := hid_ ovwz2.1
      replace F := hid_ (F.out.then_only ovwz2.2 (.inr (by omega)))
      refine ⟨.inr ⟨BL.out, K2.out, K3.out⟩, ?_⟩
      replace X1 := hid_ (X1.out.other ovwz2.2 (fun ad had _ => by cases had; show b ≠ _; omega))
      replace X2 := hid_ (X2.out.other ovwz2.2 (fun ad had _ => by obtain ⟨a0, ha0, hab⟩ := S2.out ad had; cases ha0; rw [hab]; show b ≠ _; omega))
      replace X3 := hid_ (X3.out.other ovwz2.2 (fun ad had _ => by cases had; show w6.heap.size ≠ _; omega))
      clear ovwz2
      refine wpAnyU_oneG (i := 6) rfl (by kernel_rfl) (by kernel_rfl) ?_
      go_simp
      refine ⟨⟨BL.out, K2.out, K3.out⟩, ?_⟩
      refine wpAnyU_done (by kernel_rfl) ?_ _
      go_wp2_with fail
      have r0 := B1.out.cell' (i := 0) rfl
      have s0 := B2.out.cell' (i := 0) rfl
      have t0 := B3.out.cell' (i := 0) rfl
      have r1 := B1.out.cell' (i := 1) rfl
      have s1 := B2.out.cell' (i := 1) rfl
      have t1 := B3.out.cell' (i := 1) rfl
      have r2 := B1.out.cell' (i := 2) rfl
      have s2 := B2.out.cell' (i := 2) rfl
      have t2 := B3.out.cell' (i := 2) rfl
      have r3 := B1.out.cell' (i := 3) rfl
      have s3 := B2.out.cell' (i := 3) rfl
      have t3 := B3.out.cell' (i := 3) rfl
      have r4 := B1.out.cell' (i := 4) rfl
      have s4 := B2.out.cell' (i := 4) rfl
      have t4 := B3.out.cell' (i := 4) rfl
      have r5 := B1.out.cell' (i := 5) rfl
      have s5 := B2.out.cell' (i := 5) rfl
      have t5 := B3.out.cell' (i := 5) rfl
      have r6 := B1.out.cell' (i := 6) rfl
      have s6 := B2.out.cell' (i := 6) rfl
      have t6 := B3.out.cell' (i := 6) rfl
      have r7 := B1.out.cell' (i := 7) rfl
      have s7 := B2.out.cell' (i := 7) rfl
      have t7 := B3.out.cell' (i := 7) rfl
      have r8 := B1.out.cell' (i := 8) rfl
      have s8 := B2.out.cell' (i := 8) rfl
      have t8 := B3.out.cell' (i := 8) rfl
      have r9 := B1.out.cell' (i := 9) rfl
      have s9 := B2.out.cell' (i := 9) rfl
      have t9 := B3.out.cell' (i := 9) rfl
      have r10 := B1.out.cell' (i := 10) rfl
      have s10 := B2.out.cell' (i := 10) rfl
      have t10 := B3.out.cell' (i := 10) rfl
      have r11 := B1.out.cell' (i := 11) rfl
      have s11 := B2.out.cell' (i := 11) rfl
      have t11 := B3.out.cell' (i := 11) rfl
      have r12 := B1.out.cell' (i := 12) rfl
      have s12 := B2.out.cell' (i := 12) rfl
      have t12 := B3.out.cell' (i := 12) rfl
      have r13 := B1.out.cell' (i := 13) rfl
      have s13 := B2.out.cell' (i := 13) rfl
      have t13 := B3.out.cell' (i := 13) rfl
      have r14 := B1.out.cell' (i := 14) rfl
      have s14 := B2.out.cell' (i := 14) rfl
      have t14 := B3.out.cell' (i := 14) rfl
      refine bodyPost_ret (v := .tuple #[recX (baseR (leftV V n q.1 right)) (some ⟨b, off, none⟩) c, recX (baseR (rightV V (V.ents.length / 2) q.1)) E2 d2, recX (baseR (topV V q.1 left right)) (some ⟨w6.heap.size, 0, none⟩) 2, .int .i64 0]) ?_ rfl ⟨_, _, _, _, c, E2, d2, _, 2, 0, .inr ⟨q, HN.out.2.2.2, HN.out.2.2.1, by rw [← HN.out.1]; exact HN.out.2.1, by rw [← HN.out.1], rfl, rfl, rfl⟩, rfl, X1.out, X2.out, X3.out, F.out⟩
      simp [results, Tryd.results35, go_sem, baseR, leftV, rightV, topV, Rc.zero, r0, s0, t0, r1, s1, t1, r2, s2, t2, r3, s3, t3, r4, s4, t4, r5, s5, t5, r6, s6, t6, r7, s7, t7, r8, s8, t8, r9, s9, t9, r10, s10, t10, r11, s11, t11, r12, s12, t12, r13, s13, t13, r14, s14, t14]
theorem rgrow_ok (V : Vw) (left right : Int) (A : Option Addr) (c : Nat) (w : World) (h : VwIn w V A c) :
    Calls Tryd.prog 35 #[vwV V (.slice A V.ents.length c), .int .i64 left, .int .i64 right] w (RGrowPost V left right w) := by
  by_cases hk : whyI V = 0
  · exact rgrow_yes V left right A c w h hk
  · exact rgrow_no V left right A c w h hk
end Go.Proofs.YtfoljojacakkeaaDoor

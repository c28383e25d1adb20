/- The document's Grow. Written by gen_builds8.py. -/
import Derived.Test.YtfoljojacakkeaaDoorDocC8
import Derived.Deep.DeepCutAuto
namespace Go.Proofs.YtfoljojacakkeaaDoor
open Go.RowKit Go.BigFrame Go.ChangeShapes Go.WideShapes
set_option maxRecDepth 100000
set_option linter.unusedVariables false

def RGrowPost (V : Vw) (left right : Int) (w : World) (e : Ending) (w' : World) : Prop :=
  ∃ R1 R2 R3 B1 d1 B2 d2 B3 d3 k, GrowIs V left right R1 R2 R3 k ∧ e = .returned (.tuple #[recX R1 B1 d1, recX R2 B2 d2, recX R3 B3 d3, .int .i64 k]) ∧ RecX w' R1 B1 ∧ RecX w' R2 B2 ∧ RecX w' R3 B3 ∧ Fr none_ w w'
theorem SplitIs.yes {V : Vw} {page : Int} {R1 R2 : Rc} {k : Int} (h : SplitIs V page R1 R2 k) (h1 : V.held = false) (h2 : 2 ≤ V.ents.length) {q : Et} (hq : V.ents[V.ents.length / 2]? = some q) : R2 = baseR (rightV V (V.ents.length / 2) q.1) := by
  rcases h with ⟨h, _⟩ | ⟨q', a1, a2, a3, rfl, rfl, rfl⟩
  · exact (h.not h1 h2).elim
  · obtain rfl := Option.some.inj (hq.symm.trans a3)
    rfl
theorem top_recx {w : World} {V : Vw} {k : ByteArray} {l r : Int} {g : Nat} (h : Blk w g 60 #[.string V.low, .int .i64 l, .string k, .int .i64 r]) : RecX w (baseR (topV V k l r)) (some ⟨g, 0, none⟩) := by
  refine ⟨⟨rfl, fun _ => ⟨_, rfl, fun j u hu => ?_⟩⟩, rfl, by show 2 ≤ 1000; decide⟩
  rw [add_lit, Nat.zero_add]
  exact h.cell' (by simpa [topV, baseR, etFlat, etCells] using hu)
set_option maxHeartbeats 16000000 in
theorem rgrow_no (V : Vw) (left right : Int) (A : Option Addr) (c : Nat) (w : World) (h : VwIn w V A c) (hk : whyI V ≠ 0) :
    Calls Tryd.prog 35 #[vwV V (.slice A V.ents.length c), .int .i64 left, .int .i64 right] w (RGrowPost V left right w) := by
  have HOL := hid_ (fun (h0 : 0 < V.ents.length) => h.rd.old (by decide) h0)
  have h1000 := h.ok.ents.1
  have hcapx := h.cap
  have hcmx := h.capm
  unfold maxLen at hcmx
  obtain ⟨w0, hw0⟩ : ∃ z, z = (((w.alloc (.cells (vwA V (.slice A V.ents.length c)) 52)).alloc (.cells (recA Rc.zero (.slice none 0 0) (.slice none 0 0)) 40)).alloc (.cells (recA Rc.zero (.slice none 0 0) (.slice none 0 0)) 40)).alloc (.cells (recA Rc.zero (.slice none 0 0) (.slice none 0 0)) 40) := ⟨_, rfl⟩
  have f0 : Fr none_ w w0 := by rw [hw0]; exact ((((Fr.refl none_ w).alloc _).alloc _).alloc _).alloc _
  have BV : Hid (Blk w0 w.heap.size 52 (vwA V (.slice A V.ents.length c))) := hid_ (by rw [hw0]; exact (((Blk.new w _ _).alloc _).alloc _).alloc _)
  have B1 : Hid (Blk w0 (w.heap.size + 1) 40 (recA Rc.zero (.slice none 0 0) (.slice none 0 0))) := hid_ (by rw [hw0]; exact ((Blk.new_at _ _ (by simp)).alloc _).alloc _)
  have B2 : Hid (Blk w0 (w.heap.size + 1 + 1) 40 (recA Rc.zero (.slice none 0 0) (.slice none 0 0))) := hid_ (by rw [hw0]; exact (Blk.new_at _ _ (by simp)).alloc _)
  have B3 : Hid (Blk w0 (w.heap.size + 1 + 1 + 1) 40 (recA Rc.zero (.slice none 0 0) (.slice none 0 0))) := hid_ (by rw [hw0]; exact Blk.new_at _ _ (by simp))
  have H := hid_ (h.keep f0)
  have F := hid_ f0
  have hlast : w.heap.size + 1 + 1 + 1 < w0.heap.size := B3.out.lt
  clear f0
  go_enter Tryd.func35, Tryd.ntmps35
  go_upto_region 1 with fail
  change Code.wp _ _ _ _ ((((w.alloc (.cells (vwA V (.slice A V.ents.length c)) 52)).alloc (.cells (recA Rc.zero (.slice none 0 0) (.slice none 0 0)) 40)).alloc (.cells (recA Rc.zero (.slice none 0 0) (.slice none 0 0)) 40)).alloc (.cells (recA Rc.zero (.slice none 0 0) (.slice none 0 0)) 40))
  rw [← hw0]
  clear hw0
  clear h
  have v0 : w0.cell? ⟨w.heap.size, 0, none⟩ = some (.string V.low) := BV.out.cell' rfl
  have v1 : w0.cell? ⟨w.heap.size, 1, none⟩ = some (.string V.high) := BV.out.cell' rfl
  have v2 : w0.cell? ⟨w.heap.size, 2, none⟩ = some (.bool V.unb) := BV.out.cell' rfl
  have v3 : w0.cell? ⟨w.heap.size, 3, none⟩ = some (.int .i64 V.right) := BV.out.cell' rfl
  have v4 : w0.cell? ⟨w.heap.size, 4, none⟩ = some (.slice A V.ents.length c) := BV.out.cell' rfl
  have v5 : w0.cell? ⟨w.heap.size, 5, none⟩ = some (.bool V.held) := BV.out.cell' rfl
  have v6 : w0.cell? ⟨w.heap.size, 6, none⟩ = some (.int .i64 V.hp) := BV.out.cell' rfl
  have v7 : w0.cell? ⟨w.heap.size, 7, none⟩ = some (.int .i64 V.hl) := BV.out.cell' rfl
  have v8 : w0.cell? ⟨w.heap.size, 8, none⟩ = some (.string V.hk) := BV.out.cell' rfl
  go_wp2_with fail
  refine (why_ok V A c _).mono ?_
  rintro e w1 ⟨rfl, hf⟩
  replace H := hid_ (H.out.keep hf)
  replace F := hid_ (F.out.then_none hf)
  replace BV := hid_ (BV.out.fr hf id)
  replace B1 := hid_ (B1.out.fr hf id)
  replace B2 := hid_ (B2.out.fr hf id)
  replace B3 := hid_ (B3.out.fr hf id)
  clear hf
  clear v0 v1 v2 v3 v4 v5 v6 v7 v8
  have hd : (whyI V != 0) = true := by simp [hk]
  have HK := hid_ (whyI_no hk)
  clear hk
  go_upto_region 2 with fail
  have v0 : w1.cell? ⟨w.heap.size, 0, none⟩ = some (.string V.low) := BV.out.cell' rfl
  have v1 : w1.cell? ⟨w.heap.size, 1, none⟩ = some (.string V.high) := BV.out.cell' rfl
  have v2 : w1.cell? ⟨w.heap.size, 2, none⟩ = some (.bool V.unb) := BV.out.cell' rfl
  have v3 : w1.cell? ⟨w.heap.size, 3, none⟩ = some (.int .i64 V.right) := BV.out.cell' rfl
  have v4 : w1.cell? ⟨w.heap.size, 4, none⟩ = some (.slice A V.ents.length c) := BV.out.cell' rfl
  have v5 : w1.cell? ⟨w.heap.size, 5, none⟩ = some (.bool V.held) := BV.out.cell' rfl
  have v6 : w1.cell? ⟨w.heap.size, 6, none⟩ = some (.int .i64 V.hp) := BV.out.cell' rfl
  have v7 : w1.cell? ⟨w.heap.size, 7, none⟩ = some (.int .i64 V.hl) := BV.out.cell' rfl
  have v8 : w1.cell? ⟨w.heap.size, 8, none⟩ = some (.string V.hk) := BV.out.cell' rfl
  go_wp2_with fail
  refine (why_ok V A c _).mono ?_
  rintro e w2 ⟨rfl, hf⟩
  replace H := hid_ (H.out.keep hf)
  replace F := hid_ (F.out.then_none hf)
  replace BV := hid_ (BV.out.fr hf id)
  replace B1 := hid_ (B1.out.fr hf id)
  replace B2 := hid_ (B2.out.fr hf id)
  replace B3 := hid_ (B3.out.fr hf id)
  clear hf
  clear v0 v1 v2 v3 v4 v5 v6 v7 v8
  have hsz2 := F.out.size
  go_wp2_with (first | (refine wpList_store_mid rfl 40 (.tmp 6) (.tmp 20) rfl (w.heap.size + 1) 0 (recL ⟨Rc.zero, none, 0, none, 0⟩).toArray rfl rfl (B1.out.there0 rfl) rec_size8 (rec_one ⟨Rc.zero, none, 0, none, 0⟩) ?_; obtain ⟨wz0a, hwz0a⟩ : ∃ z, z = w2.setCells (w.heap.size + 1) 0 (recL ⟨Rc.zero, none, 0, none, 0⟩) := ⟨_, rfl⟩; have ovwz0a := Blk.over B1.out (recL ⟨Rc.zero, none, 0, none, 0⟩) rfl; rw [← hwz0a] at ovwz0a; change wpList _ _ _ _ _ (w2.setCells (w.heap.size + 1) 0 (recL ⟨Rc.zero, none, 0, none, 0⟩)); rw [← hwz0a]; clear hwz0a; replace B2 := hid_ (B2.out.fr ovwz0a.2 (only_ne (by omega))); replace B3 := hid_ (B3.out.fr ovwz0a.2 (only_ne (by omega))); replace B1 := hid_ ovwz0a.1; replace F := hid_ (F.out.then_only ovwz0a.2 (.inr (by omega))); clear ovwz0a) | (refine wpList_store_mid rfl 40 (.tmp 7) (.tmp 21) rfl (w.heap.size + 1 + 1) 0 (recL ⟨Rc.zero, none, 0, none, 0⟩).toArray rfl rfl (B2.out.there0 rfl) rec_size8 (rec_one ⟨Rc.zero, none, 0, none, 0⟩) ?_; obtain ⟨wz1a, hwz1a⟩ : ∃ z, z = wz0a.setCells (w.heap.size + 1 + 1) 0 (recL ⟨Rc.zero, none, 0, none, 0⟩) := ⟨_, rfl⟩; have ovwz1a := Blk.over B2.out (recL ⟨Rc.zero, none, 0, none, 0⟩) rfl; rw [← hwz1a] at ovwz1a; change wpList _ _ _ _ _ (wz0a.setCells (w.heap.size + 1 + 1) 0 (recL ⟨Rc.zero, none, 0, none, 0⟩)); rw [← hwz1a]; clear hwz1a; replace B1 := hid_ (B1.out.fr ovwz1a.2 (only_ne (by omega))); replace B3 := hid_ (B3.out.fr ovwz1a.2 (only_ne (by omega))); replace B2 := hid_ ovwz1a.1; replace F := hid_ (F.out.then_only ovwz1a.2 (.inr (by omega))); clear ovwz1a) | (refine wpList_store_mid rfl 40 (.tmp 8) (.tmp 22) rfl (w.heap.size + 1 + 1 + 1) 0 (recL ⟨Rc.zero, none, 0, none, 0⟩).toArray rfl rfl (B3.out.there0 rfl) rec_size8 (rec_one ⟨Rc.zero, none, 0, none, 0⟩) ?_; obtain ⟨wz2a, hwz2a⟩ : ∃ z, z = wz1a.setCells (w.heap.size + 1 + 1 + 1) 0 (recL ⟨Rc.zero, none, 0, none, 0⟩) := ⟨_, rfl⟩; have ovwz2a := Blk.over B3.out (recL ⟨Rc.zero, none, 0, none, 0⟩) rfl; rw [← hwz2a] at ovwz2a; change wpList _ _ _ _ _ (wz1a.setCells (w.heap.size + 1 + 1 + 1) 0 (recL ⟨Rc.zero, none, 0, none, 0⟩)); rw [← hwz2a]; clear hwz2a; replace B1 := hid_ (B1.out.fr ovwz2a.2 (only_ne (by omega))); replace B2 := hid_ (B2.out.fr ovwz2a.2 (only_ne (by omega))); replace B3 := hid_ ovwz2a.1; replace F := hid_ (F.out.then_only ovwz2a.2 (.inr (by omega))); clear ovwz2a))
  have r0 := B1.out.cell' (i := 0) rfl
  have s0 := B2.out.cell' (i := 0) rfl
  have t0 := B3.out.cell' (i := 0) rfl
  have r1 := B1.out.cell' (i := 1) rfl
  have s1 := B2.out.cell' (i := 1) rfl
  have t1 := B3.out.cell' (i := 1) rfl
  have r2 := B1.out.cell' (i := 2) rfl
  have s2 := B2.out.cell' (i := 2) rfl
  have t2 := B3.out.cell' (i := 2) rfl
  have r3 := B1.out.cell' (i := 3) rfl
  have s3 := B2.out.cell' (i := 3) rfl
  have t3 := B3.out.cell' (i := 3) rfl
  have r4 := B1.out.cell' (i := 4) rfl
  have s4 := B2.out.cell' (i := 4) rfl
  have t4 := B3.out.cell' (i := 4) rfl
  have r5 := B1.out.cell' (i := 5) rfl
  have s5 := B2.out.cell' (i := 5) rfl
  have t5 := B3.out.cell' (i := 5) rfl
  have r6 := B1.out.cell' (i := 6) rfl
  have s6 := B2.out.cell' (i := 6) rfl
  have t6 := B3.out.cell' (i := 6) rfl
  have r7 := B1.out.cell' (i := 7) rfl
  have s7 := B2.out.cell' (i := 7) rfl
  have t7 := B3.out.cell' (i := 7) rfl
  have r8 := B1.out.cell' (i := 8) rfl
  have s8 := B2.out.cell' (i := 8) rfl
  have t8 := B3.out.cell' (i := 8) rfl
  have r9 := B1.out.cell' (i := 9) rfl
  have s9 := B2.out.cell' (i := 9) rfl
  have t9 := B3.out.cell' (i := 9) rfl
  have r10 := B1.out.cell' (i := 10) rfl
  have s10 := B2.out.cell' (i := 10) rfl
  have t10 := B3.out.cell' (i := 10) rfl
  have r11 := B1.out.cell' (i := 11) rfl
  have s11 := B2.out.cell' (i := 11) rfl
  have t11 := B3.out.cell' (i := 11) rfl
  have r12 := B1.out.cell' (i := 12) rfl
  have s12 := B2.out.cell' (i := 12) rfl
  have t12 := B3.out.cell' (i := 12) rfl
  have r13 := B1.out.cell' (i := 13) rfl
  have s13 := B2.out.cell' (i := 13) rfl
  have t13 := B3.out.cell' (i := 13) rfl
  have r14 := B1.out.cell' (i := 14) rfl
  have s14 := B2.out.cell' (i := 14) rfl
  have t14 := B3.out.cell' (i := 14) rfl
  refine bodyPost_ret (v := .tuple #[recV Rc.zero (.slice none 0 0) (.slice none 0 0), recV Rc.zero (.slice none 0 0) (.slice none 0 0), recV Rc.zero (.slice none 0 0) (.slice none 0 0), .int .i64 (whyI V)]) ?_ rfl ⟨Rc.zero, Rc.zero, Rc.zero, none, 0, none, 0, none, 0, whyI V, .inl ⟨HK.out, rfl, rfl, rfl⟩, rfl, RecX.zero _, RecX.zero _, RecX.zero _, F.out⟩
  simp [results, Tryd.results35, go_sem, Rc.zero, r0, s0, t0, r1, s1, t1, r2, s2, t2, r3, s3, t3, r4, s4, t4, r5, s5, t5, r6, s6, t6, r7, s7, t7, r8, s8, t8, r9, s9, t9, r10, s10, t10, r11, s11, t11, r12, s12, t12, r13, s13, t13, r14, s14, t14]
end Go.Proofs.YtfoljojacakkeaaDoor

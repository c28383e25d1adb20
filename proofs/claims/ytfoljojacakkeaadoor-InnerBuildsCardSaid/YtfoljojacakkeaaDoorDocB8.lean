/- The document's Base, Child, Hold4; a view in memory of its own. Written by gen_doc8b.py. -/
import Derived.Test.YtfoljojacakkeaaDoorDoc8
namespace Go.Proofs.YtfoljojacakkeaaDoor
open Go.RowKit Go.BigFrame Go.ChangeShapes Go.WideShapes
set_option maxRecDepth 100000
set_option linter.unusedVariables false

theorem vw_size : (Tryd.prog.info? 57).map (·.size) = some 9 := by kernel_rfl
theorem vw_one (V : Vw) (A : Option Addr) (n c : Nat) : (vwA V (.slice A n c)).all (·.oneCell') = true := by simp [Value.oneCell']
set_option maxHeartbeats 4000000 in
theorem rbase_ok (V : Vw) (A : Option Addr) (c : Nat) (w : World) : Calls Tryd.prog 21 #[vwV V (.slice A V.ents.length c)] w fun e w' => e = .returned (recV (baseR V) (.slice none 0 0) (.slice A V.ents.length c)) ∧ Fr none_ w w' := by
  obtain ⟨w0, hw0⟩ : ∃ z, z = (w.alloc (.cells (vwA V (.slice A V.ents.length c)) 52)).alloc (.cells recZ8 40) := ⟨_, rfl⟩
  have f0 : Fr none_ w w0 := by rw [hw0]; exact ((Fr.refl none_ w).alloc _).alloc _
  have BV : Hid (Blk w0 w.heap.size 52 (vwA V (.slice A V.ents.length c))) := hid_ (by rw [hw0]; exact (Blk.new w _ _).alloc _)
  have BO : Hid (Blk w0 (w.heap.size + 1) 40 recZ8) := hid_ (by rw [hw0]; exact Blk.new_at _ _ (by simp))
  have F0 := hid_ f0
  clear f0
  go_enter Tryd.func21, Tryd.ntmps21
  go_upto_region 1 with fail
  change Code.wp _ _ _ _ ((w.alloc (.cells (vwA V (.slice A V.ents.length c)) 52)).alloc (.cells recZ8 40))
  rw [← hw0]
  clear hw0
  have v0 : w0.cell? ⟨w.heap.size, 0, none⟩ = some (.string V.low) := BV.out.cell' rfl
  have v1 : w0.cell? ⟨w.heap.size, 1, none⟩ = some (.string V.high) := BV.out.cell' rfl
  have v2 : w0.cell? ⟨w.heap.size, 2, none⟩ = some (.bool V.unb) := BV.out.cell' rfl
  have v3 : w0.cell? ⟨w.heap.size, 3, none⟩ = some (.int .i64 V.right) := BV.out.cell' rfl
  have v4 : w0.cell? ⟨w.heap.size, 4, none⟩ = some (.slice A V.ents.length c) := BV.out.cell' rfl
  have v5 : w0.cell? ⟨w.heap.size, 5, none⟩ = some (.bool V.held) := BV.out.cell' rfl
  have v6 : w0.cell? ⟨w.heap.size, 6, none⟩ = some (.int .i64 V.hp) := BV.out.cell' rfl
  have v7 : w0.cell? ⟨w.heap.size, 7, none⟩ = some (.int .i64 V.hl) := BV.out.cell' rfl
  have v8 : w0.cell? ⟨w.heap.size, 8, none⟩ = some (.string V.hk) := BV.out.cell' rfl
  go_wp2_with (refine wpList_store_mid rfl 40 (.tmp 2) (.tmp 13) rfl (w.heap.size + 1) 0 (recA (baseR V) (.slice none 0 0) (.slice A V.ents.length c)) rfl rfl (BO.out.there0 rfl) rec_size8 (by simp [Value.oneCell']) ?_; obtain ⟨w5, hw5⟩ : ∃ z, z = w0.setCells (w.heap.size + 1) 0 (recA (baseR V) (.slice none 0 0) (.slice A V.ents.length c)).toList := ⟨_, rfl⟩; have ov := BO.out.over (recA (baseR V) (.slice none 0 0) (.slice A V.ents.length c)).toList rfl; rw [← hw5] at ov; have Q5 : Hid (Blk w5 (w.heap.size + 1) 40 (recA (baseR V) (.slice none 0 0) (.slice A V.ents.length c))) := hid_ ov.1; have F5 := hid_ (F0.out.then_only ov.2 (.inr (by omega))); change wpList _ _ _ _ _ (w0.setCells (w.heap.size + 1) 0 (recA (baseR V) (.slice none 0 0) (.slice A V.ents.length c)).toList); rw [← hw5]; clear hw5 ov)
  clear v0 v1 v2 v3 v4 v5 v6 v7 v8
  have q0 := Q5.out.cell' (i := 0) rfl
  have q1 := Q5.out.cell' (i := 1) rfl
  have q2 := Q5.out.cell' (i := 2) rfl
  have q3 := Q5.out.cell' (i := 3) rfl
  have q4 := Q5.out.cell' (i := 4) rfl
  have q5 := Q5.out.cell' (i := 5) rfl
  have q6 := Q5.out.cell' (i := 6) rfl
  have q7 := Q5.out.cell' (i := 7) rfl
  have q8 := Q5.out.cell' (i := 8) rfl
  have q9 := Q5.out.cell' (i := 9) rfl
  have q10 := Q5.out.cell' (i := 10) rfl
  have q11 := Q5.out.cell' (i := 11) rfl
  have q12 := Q5.out.cell' (i := 12) rfl
  have q13 := Q5.out.cell' (i := 13) rfl
  have q14 := Q5.out.cell' (i := 14) rfl
  refine bodyPost_ret (v := recV (baseR V) (.slice none 0 0) (.slice A V.ents.length c)) ?_ rfl ⟨rfl, F5.out⟩
  simp [results, Tryd.results21, go_sem, q0, q1, q2, q3, q4, q5, q6, q7, q8, q9, q10, q11, q12, q13, q14]
def RHoldPost (V : Vw) (page : Int) (w : World) (e : Ending) (w' : World) : Prop :=
  ((HoldIs V page none ∧ e = .returned (.tuple #[.agg #[.int .i64 0, .int .i64 0, .string nilS], .int .i64 6])) ∨
   ∃ a b c, HoldIs V page (some (a, b, c)) ∧ e = .returned (.tuple #[.agg #[.int .i64 a, .int .i64 b, .string c], .int .i64 0])) ∧ Fr none_ w w'
set_option maxHeartbeats 4000000 in
theorem rhold_ok (V : Vw) (page : Int) (A : Option Addr) (c : Nat) (w : World) (h : VwIn w V A c) (hl : V.ents.length ≤ 1000) :
    Calls Tryd.prog 28 #[vwV V (.slice A V.ents.length c), .int .i64 page] w (RHoldPost V page w) := by
  obtain ⟨w0, hw0⟩ : ∃ z, z = (w.alloc (.cells (vwA V (.slice A V.ents.length c)) 52)).alloc (.cells #[.int .i64 0, .int .i64 0, .string nilS] 36) := ⟨_, rfl⟩
  have f0 : Fr none_ w w0 := by rw [hw0]; exact ((Fr.refl none_ w).alloc _).alloc _
  have BV : Hid (Blk w0 w.heap.size 52 (vwA V (.slice A V.ents.length c))) := hid_ (by rw [hw0]; exact (Blk.new w _ _).alloc _)
  have BH : Hid (Blk w0 (w.heap.size + 1) 36 #[.int .i64 0, .int .i64 0, .string nilS]) := hid_ (by rw [hw0]; exact Blk.new_at _ _ (by simp))
  have F0 := hid_ f0
  have HI := hid_ (h.keep f0)
  clear f0 h
  go_enter Tryd.func28, Tryd.ntmps28
  go_upto_region 1 with fail
  change Code.wp _ _ _ _ ((w.alloc (.cells (vwA V (.slice A V.ents.length c)) 52)).alloc (.cells #[.int .i64 0, .int .i64 0, .string nilS] 36))
  rw [← hw0]
  clear hw0
  go_wp2_with fail
  go_loopw [6] (fun i wr => ∃ k : Nat, 1 ≤ k ∧ k ≤ V.ents.length + 1 ∧ i = .int .i64 k ∧ NB V page k ∧ w0 = wr) (fun i _ => V.ents.length + 1 - (intOf i).toNat)
  case atStart => exact ⟨1, Nat.le_refl _, by omega, rfl, NB.one V page (Nat.le_refl _), rfl⟩
  case round =>
    obtain ⟨k, hk1, hk, rfl, hnb, rfl⟩ := hrel
    have HNB := hid_ hnb
    have hi0 : (0 : Int) ≤ (k : Int) := Int.natCast_nonneg _
    have v4 : w0.cell? ⟨w.heap.size, 4, none⟩ = some (.slice A V.ents.length c) := BV.out.cell' rfl
    clear hnb
    by_cases hlt : k < V.ents.length
    · obtain ⟨q, hq⟩ : ∃ q, V.ents[k]? = some q := ⟨_, List.getElem?_eq_getElem hlt⟩
      have HQ := hid_ hq
      obtain ⟨b, off, rfl, hb, d0, d1⟩ := et_at HI.out.rd hq
      have hi1 : (k : Int) < (V.ents.length : Int) := by omega
      clear hq
      by_cases hp : q.2 = page
      · have hd1 : (q.2 == page) = true := by simpa using hp
        have HP := hid_ hp
        have hkm : IntKind.i64.wrap ((k : Int) - 1) = ((k - 1 : Nat) : Int) := by rw [IntWalk.i64_in _ (by omega)]; omega
        obtain ⟨l, hl2⟩ : ∃ l, V.ents[k - 1]? = some l := ⟨_, List.getElem?_eq_getElem (by omega)⟩
        have HL := hid_ hl2
        obtain ⟨b', off', e', hb', l0, l1⟩ := et_at HI.out.rd hl2
        cases e'
        have hi3 : ((k - 1 : Nat) : Int) < (V.ents.length : Int) := by omega
        have hi4 : (0 : Int) ≤ ((k - 1 : Nat) : Int) := Int.natCast_nonneg _
        clear hp hl2 l0
        go_upto_region 5 with fail
        clear hd1 d1
        have hS1 : (fun w' : World => Fr none_ w0 w') w0.drew := (Fr.refl none_ w0).drew
        refine wp_region_U (m := 15) (S := fun w' : World => Fr none_ w0 w') (by kernel_rfl) ?_
        refine wpAnyU_take2 (i := 0) (v := _) rfl (by kernel_rfl) (by kernel_rfl) (by kernel_rfl) (by kernel_rfl) (fun _ _ _ h => h) (.inl ⟨by kernel_rfl, fun w' hS => by go_simp; rfl⟩) hS1 ?_
        refine wpAnyU_take2 (i := 1) (v := _) rfl (by kernel_rfl) (by kernel_rfl) (by kernel_rfl) (by kernel_rfl) (fun _ _ _ h => h) (.inl ⟨by kernel_rfl, fun w' hS => by go_simp; rfl⟩) hS1 ?_
        refine wpAnyU_take2 (i := 2) (v := _) rfl (by kernel_rfl) (by kernel_rfl) (by kernel_rfl) (by kernel_rfl) (fun _ _ _ h => h) (.inl ⟨by kernel_rfl, fun w' hS => by have s_ := cellFr v4 hS; go_simp; rfl⟩) hS1 ?_
        refine wpAnyU_take2 (i := 3) (v := _) rfl (by kernel_rfl) (by kernel_rfl) (by kernel_rfl) (by kernel_rfl) (fun _ _ _ h => h) (.inl ⟨by kernel_rfl, fun w' hS => by go_simp; rfl⟩) hS1 ?_
        refine wpAnyU_take2 (i := 4) (v := _) rfl (by kernel_rfl) (by kernel_rfl) (by kernel_rfl) (by kernel_rfl) (fun _ _ _ h => h) (.inl ⟨by kernel_rfl, fun w' hS => by go_simp; rfl⟩) hS1 ?_
        refine wpAnyU_take2 (i := 5) (v := _) rfl (by kernel_rfl) (by kernel_rfl) (by kernel_rfl) (by kernel_rfl) (fun _ _ _ h => h) (.inl ⟨by kernel_rfl, fun w' hS => by go_simp; rfl⟩) hS1 ?_
        refine wpAnyU_take2 (i := 6) (v := _) rfl (by kernel_rfl) (by kernel_rfl) (by kernel_rfl) (by kernel_rfl) (fun _ _ _ h => h) (.inl ⟨by kernel_rfl, fun w' hS => by go_simp; rfl⟩) hS1 ?_
        refine wpAnyU_take2 (i := 7) (v := _) rfl (by kernel_rfl) (by kernel_rfl) (by kernel_rfl) (by kernel_rfl) (fun _ _ _ h => h) (.inl ⟨by kernel_rfl, fun w' hS => by have s_ := cellFr l1 hS; go_simp; rfl⟩) hS1 ?_
        refine wpAnyU_take2 (i := 8) (v := _) rfl (by kernel_rfl) (by kernel_rfl) (by kernel_rfl) (by kernel_rfl) (fun _ _ _ h => h) (.inl ⟨by kernel_rfl, fun w' hS => by go_simp; rfl⟩) hS1 ?_
        refine wpAnyU_take2 (i := 9) (v := _) rfl (by kernel_rfl) (by kernel_rfl) (by kernel_rfl) (by kernel_rfl) (fun _ _ _ h => h) (.inl ⟨by kernel_rfl, fun w' hS => by have s_ := cellFr v4 hS; go_simp; rfl⟩) hS1 ?_
        refine wpAnyU_take2 (i := 10) (v := _) rfl (by kernel_rfl) (by kernel_rfl) (by kernel_rfl) (by kernel_rfl) (fun _ _ _ h => h) (.inl ⟨by kernel_rfl, fun w' hS => by go_simp; rfl⟩) hS1 ?_
        refine wpAnyU_take2 (i := 11) (v := _) rfl (by kernel_rfl) (by kernel_rfl) (by kernel_rfl) (by kernel_rfl) (fun _ _ _ h => h) (.inl ⟨by kernel_rfl, fun w' hS => by go_simp; rfl⟩) hS1 ?_
        refine wpAnyU_take2 (i := 12) (v := _) rfl (by kernel_rfl) (by kernel_rfl) (by kernel_rfl) (by kernel_rfl) (fun _ _ _ h => h) (.inl ⟨by kernel_rfl, fun w' hS => by go_simp; rfl⟩) hS1 ?_
        refine wpAnyU_take2 (i := 13) (v := _) rfl (by kernel_rfl) (by kernel_rfl) (by kernel_rfl) (by kernel_rfl) (fun _ _ _ h => h) (.inl ⟨by kernel_rfl, fun w' hS => by have s_ := cellFr d0 hS; go_simp; rfl⟩) hS1 ?_
        refine wpAnyU_take2 (i := 14) (v := _) rfl (by kernel_rfl) (by kernel_rfl) (by kernel_rfl) (by kernel_rfl) (fun _ _ _ h => h) (.inl ⟨by kernel_rfl, fun w' hS => by go_simp; rfl⟩) hS1 ?_
        have y0 := BH.out.frozen 0
        have y1 := BH.out.frozen 1
        have y2 := BH.out.frozen 2
        have c0 : w0.cell? ⟨w.heap.size + 1, 0, none⟩ = some (.int .i64 0) := BH.out.cell' rfl
        have c1 : w0.cell? ⟨w.heap.size + 1, 1, none⟩ = some (.int .i64 0) := BH.out.cell' rfl
        have c2 : w0.cell? ⟨w.heap.size + 1, 2, none⟩ = some (.string nilS) := BH.out.cell' rfl
        refine wpAnyU_oneG (i := 15) rfl (by kernel_rfl) (by kernel_rfl) ?_
        go_simp
        clear y0 y1 y2 c0 c1 c2 v4 d0 l1 hi3 hi4 hkm hi0 hi1
        obtain ⟨qb, qf⟩ := box3h BH.out (.int .i64 page) (.int .i64 l.2) (.string q.1)
        obtain ⟨w2, hw2⟩ : ∃ z, z = (((w0.setCell ⟨w.heap.size + 1, 0, none⟩ (.int .i64 page)).setCell ⟨w.heap.size + 1, 1, none⟩ (.int .i64 l.2)).setCell ⟨w.heap.size + 1, 2, none⟩ (.string q.1)).drew := ⟨_, rfl⟩
        have qb2 : Blk w2 (w.heap.size + 1) 36 #[.int .i64 page, .int .i64 l.2, .string q.1] := by rw [hw2]; exact qb.drew
        have qf2 : Fr (only (w.heap.size + 1)) w0 w2 := by rw [hw2]; exact qf.drew
        rw [← hw2]
        clear hw2 qb qf
        have q0 := qb2.cell' (i := 0) rfl
        have q1 := qb2.cell' (i := 1) rfl
        have q2 := qb2.cell' (i := 2) rfl
        refine wpAnyU_oneG (i := 16) rfl (by kernel_rfl) (by kernel_rfl) ?_
        go_simp
        refine wpAnyU_done (by kernel_rfl) ?_ _
        go_wp2_with fail
        have hqk : V.ents[(k - 1) + 1]? = some q := by rw [show k - 1 + 1 = k by omega]; exact HQ.out
        refine bodyPost_ret (v := .tuple #[.agg #[.int .i64 page, .int .i64 l.2, .string q.1], .int .i64 0]) ?_ rfl ⟨.inr ⟨page, l.2, q.1, .inr ⟨k - 1, l, q, HL.out, hqk, HP.out, by rw [show k - 1 + 1 = k by omega]; exact HNB.out, by rw [HP.out]⟩, rfl⟩, F0.out.then_only qf2 (.inr (by omega))⟩
        simp [results, Tryd.results28, go_sem, q0, q1, q2]
      · have hd1 : (q.2 == page) = false := by simpa using hp
        have HX := hid_ (HNB.out.next HQ.out hp)
        clear hp
        go_wp2_with fail
        go_roundw
        case rel => exact ⟨k + 1, by omega, by omega, by go_num, HX.out, by first | rfl | trivial⟩
        case measure => simp [intOf]; omega
    · have hi1 : ¬ (k : Int) < (V.ents.length : Int) := by omega
      have HNL : Hid (NB V page V.ents.length) := hid_ (fun j p h1 h2 hj => HNB.out j p h1 (by omega) hj)
      have y0 := BH.out.frozen 0
      have y1 := BH.out.frozen 1
      have y2 := BH.out.frozen 2
      have c0 : w0.cell? ⟨w.heap.size + 1, 0, none⟩ = some (.int .i64 0) := BH.out.cell' rfl
      have c1 : w0.cell? ⟨w.heap.size + 1, 1, none⟩ = some (.int .i64 0) := BH.out.cell' rfl
      have c2 : w0.cell? ⟨w.heap.size + 1, 2, none⟩ = some (.string nilS) := BH.out.cell' rfl
      go_wp2_with fail
      clear y0 y1 y2 c0 c1 c2
      obtain ⟨qb, qf⟩ := box3h BH.out (.int .i64 0) (.int .i64 0) (.string nilS)
      have q0 := qb.cell' (i := 0) rfl
      have q1 := qb.cell' (i := 1) rfl
      have q2 := qb.cell' (i := 2) rfl
      have q0' := BH.out.cell' (i := 0) rfl
      have q1' := BH.out.cell' (i := 1) rfl
      have q2' := BH.out.cell' (i := 2) rfl
      first
      | (refine bodyPost_ret (v := .tuple #[.agg #[.int .i64 0, .int .i64 0, .string nilS], .int .i64 6]) ?_ rfl ⟨.inl ⟨.inl ⟨HNL.out, rfl⟩, rfl⟩, F0.out.then_only qf (.inr (by omega))⟩
         simp [results, Tryd.results28, go_sem, q0, q1, q2])
      | (refine bodyPost_ret (v := .tuple #[.agg #[.int .i64 0, .int .i64 0, .string nilS], .int .i64 6]) ?_ rfl ⟨.inl ⟨.inl ⟨HNL.out, rfl⟩, rfl⟩, F0.out⟩
         simp [results, Tryd.results28, go_sem, q0', q1', q2'])
def rchildM (V : Vw) (key : ByteArray) : Option Et := if inS V.low V.high V.unb key = true ∧ rdN V.ents key ≠ 0 then V.ents[rdN V.ents key - 1]? else none
theorem rchild_rising {V : Vw} {key : ByteArray} (h : Rising V.ents) : rchildM V key = childM V key := by unfold rchildM childM; rw [ndN_rising h]
def RChildPost (V : Vw) (key : ByteArray) (w : World) (e : Ending) (w' : World) : Prop :=
  ((∃ p : Et, rchildM V key = some p ∧ e = .returned (.tuple #[.agg #[.string p.1, .int .i64 p.2], .int .i64 0])) ∨ (rchildM V key = none ∧ e = .returned (.tuple #[.agg #[.string nilS, .int .i64 0], .int .i64 2]))) ∧ Fr none_ w w'
/-- What stands in the loop's box. -/
def outAt (L : List Et) : Nat → Et
  | 0 => (nilS, 0)
  | k + 1 => L.getD k (nilS, 0)
set_option maxHeartbeats 8000000 in
theorem rchild_ok (V : Vw) (A : Option Addr) (c : Nat) (key : ByteArray) (w : World) (h : VwIn w V A c) (hk : SzOk key) :
    Calls Tryd.prog 26 #[vwV V (.slice A V.ents.length c), .string key] w (RChildPost V key w) := by
  have h1000 := h.ok.ents.1
  have HOL := hid_ (fun (h0 : 0 < V.ents.length) => h.rd.old (by decide) h0)
  obtain ⟨w0, hw0⟩ : ∃ z, z = ((w.alloc (.cells (vwA V (.slice A V.ents.length c)) 52)).alloc (.cells #[.string nilS, .int .i64 0] 60)).alloc (.cells #[.string nilS, .int .i64 0] 60) := ⟨_, rfl⟩
  have f0 : Fr none_ w w0 := by rw [hw0]; exact (((Fr.refl none_ w).alloc _).alloc _).alloc _
  have BV : Hid (Blk w0 w.heap.size 52 (vwA V (.slice A V.ents.length c))) := hid_ (by rw [hw0]; exact ((Blk.new w _ _).alloc _).alloc _)
  have BO : Hid (Blk w0 (w.heap.size + 1) 60 #[.string nilS, .int .i64 0]) := hid_ (by rw [hw0]; exact (Blk.new_at _ _ (by simp)).alloc _)
  have BX : Hid (Blk w0 (w.heap.size + 1 + 1) 60 #[.string nilS, .int .i64 0]) := hid_ (by rw [hw0]; exact Blk.new_at _ _ (by simp))
  have F0 := hid_ f0
  have HI := hid_ (h.keep f0)
  have HK := hid_ hk
  have HSZ := hid_ h.ok
  clear f0 h hk
  go_enter Tryd.func26, Tryd.ntmps26
  go_upto_region 2 with fail
  first
  | change Code.wp _ _ _ _ (((w.alloc (.cells (vwA V (.slice A V.ents.length c)) 52)).alloc (.cells #[.string nilS, .int .i64 0] 60)).alloc (.cells #[.string nilS, .int .i64 0] 60))
  | trace_state
  rw [← hw0]
  clear hw0
  go_wp2_with fail
  go_loopw [7, 8] (fun f i wr => ∃ k : Nat, k ≤ V.ents.length ∧ i = .int .i64 k ∧ f = .bool (decide (0 < k)) ∧ (∀ (j : Nat) (p : Et), j < k → V.ents[j]? = some p → ltS key p.1 = false) ∧ Blk wr (w.heap.size + 1 + 1) 60 #[.string (outAt V.ents k).1, .int .i64 (outAt V.ents k).2] ∧ Fr (only (w.heap.size + 1 + 1)) w0 wr) (fun _ i _ => V.ents.length - (intOf i).toNat)
  case atStart => exact ⟨0, Nat.zero_le _, rfl, rfl, fun j p hj => by omega, BX.out, Fr.refl _ _⟩
  case round =>
    obtain ⟨k, hk, rfl, rfl, hall, hbx, hfr⟩ := hrel
    have HA := hid_ hall
    have FR := hid_ hfr
    have BR := hid_ hbx
    have hi0 : (0 : Int) ≤ (k : Int) := Int.natCast_nonneg _
    have BVr := hid_ (BV.out.fr hfr (only_ne (by omega)))
    have BOr := hid_ (BO.out.fr hfr (only_ne (by omega)))
    have v4 : wr.cell? ⟨w.heap.size, 4, none⟩ = some (.slice A V.ents.length c) := BVr.out.cell' rfl
    have FW := hid_ (F0.out.then_only hfr (.inr (by omega)))
    clear hall hfr hbx
    have last : ∀ (w9 : World), Fr none_ wr w9 → rdN V.ents key = k → True := fun _ _ _ => trivial
    clear last
    by_cases hgo : ∃ q, V.ents[k]? = some q ∧ ltS key q.1 = false
    · obtain ⟨q, hq, hlt0⟩ := hgo
      have hlt : k < V.ents.length := (List.getElem?_eq_some_iff.1 hq).1
      have HQ := hid_ (And.intro hq hlt0)
      have hsz : SzOk q.1 := HSZ.out.ents.2 q (List.mem_of_getElem? hq)
      have HZ := hid_ hsz
      have HT := hid_ (HI.out.rd.fr FR.out (fun ad had => only_ne (by have := HOL.out (by omega) ad had; omega)))
      obtain ⟨b, off, rfl, hb, d0, d1⟩ := et_at HT.out hq
      have hi1 : (k : Int) < (V.ents.length : Int) := by omega
      clear hq hlt0 hsz
      go_wp2_with fail
      refine (before_ok key q.1 _ HK.out.le HZ.out.le).mono ?_
      rintro e w5 ⟨rfl, nq, rfl⟩
      rw [HQ.out.2]
      have y0 := BR.out.frozen 0
      have y1 := BR.out.frozen 1
      have z0 : wr.cell? ⟨w.heap.size + 1 + 1, 0, none⟩ = some (.string (outAt V.ents k).1) := BR.out.cell' rfl
      have z1 : wr.cell? ⟨w.heap.size + 1 + 1, 1, none⟩ = some (.int .i64 (outAt V.ents k).2) := BR.out.cell' rfl
      go_wp2_with fail
      have ho : outAt V.ents (k + 1) = q := by simp [outAt, HQ.out.1]
      obtain ⟨qb, qf⟩ := box2e BR.out (.string q.1) (.int .i64 q.2)
      go_roundw
      case rel =>
        refine ⟨k + 1, by omega, by go_num, by simp, fun j p hj hp => ?_, ?_, ?_⟩
        · rcases Nat.lt_succ_iff_lt_or_eq.1 hj with h | rfl
          · exact HA.out j p h hp
          · obtain rfl := Option.some.inj (HQ.out.1.symm.trans hp)
            exact HQ.out.2
        · rw [ho]; exact qb.drewN nq
        · exact FR.out.trans (qf.drewN nq) (fun _ _ => id) (fun _ _ => id)
      case measure => simp [intOf]; omega
    · have hrd : rdN V.ents key = k := rdN_is hk HA.out (fun p hp => by
        cases h : ltS key p.1 with
        | true => rfl
        | false => exact absurd ⟨p, hp, h⟩ hgo)
      have HRD := hid_ hrd
      by_cases hlt : k < V.ents.length
      · obtain ⟨q, hq⟩ : ∃ q, V.ents[k]? = some q := ⟨_, List.getElem?_eq_getElem hlt⟩
        have HL := hid_ (show ltS key q.1 = true from (by
          cases h : ltS key q.1 with
          | true => rfl
          | false => exact absurd ⟨q, hq, h⟩ hgo))
        have HZ := hid_ (HSZ.out.ents.2 q (List.mem_of_getElem? hq))
        have HT := hid_ (HI.out.rd.fr FR.out (fun ad had => only_ne (by have := HOL.out (by omega) ad had; omega)))
        obtain ⟨b, off, rfl, hb, d0, d1⟩ := et_at HT.out hq
        have hi1 : (k : Int) < (V.ents.length : Int) := by omega
        clear hq hgo d1
        rcases Nat.eq_zero_or_pos k with hk0 | hk0
        · have hdk : decide (0 < k) = false := by simp [hk0]
          have HC := hid_ (show rchildM V key = none from if_neg (by rw [HRD.out]; simp [hk0]))
          rw [hdk]
          clear hdk hk0
          go_wp2_with fail
          refine (before_ok key q.1 _ HK.out.le HZ.out.le).mono ?_
          rintro e w5 ⟨rfl, nq, rfl⟩
          rw [HL.out]
          clear d0
          have y0 := BOr.out.frozen 0
          have y1 := BOr.out.frozen 1
          have z0 : wr.cell? ⟨w.heap.size + 1, 0, none⟩ = some (.string nilS) := BOr.out.cell' rfl
          have z1 : wr.cell? ⟨w.heap.size + 1, 1, none⟩ = some (.int .i64 0) := BOr.out.cell' rfl
          go_wp2_with fail
          clear y0 y1 z0 z1
          obtain ⟨qb, qf⟩ := box2e (BOr.out.drewN nq) (.string nilS) (.int .i64 0)
          have q0 := qb.cell' (i := 0) rfl
          have q1 := qb.cell' (i := 1) rfl
          have q0' := BOr.out.cell' (i := 0) rfl
          have q1' := BOr.out.cell' (i := 1) rfl
          first
          | (refine bodyPost_ret (v := .tuple #[.agg #[.string nilS, .int .i64 0], .int .i64 2]) ?_ rfl ⟨.inr ⟨HC.out, rfl⟩, (FW.out.drewN nq).then_only qf (.inr (by omega))⟩
             simp [results, Tryd.results26, go_sem, q0, q1])
          | (refine bodyPost_ret (v := .tuple #[.agg #[.string nilS, .int .i64 0], .int .i64 2]) ?_ rfl ⟨.inr ⟨HC.out, rfl⟩, FW.out.drewN nq⟩
             simp [results, Tryd.results26, go_sem, q0', q1'])
        · have hdk : decide (0 < k) = true := by simp [hk0]
          have HK0 := hid_ hk0
          rw [hdk]
          clear hdk hk0
          have v0 : wr.cell? ⟨w.heap.size, 0, none⟩ = some (.string V.low) := BVr.out.cell' rfl
          have v1 : wr.cell? ⟨w.heap.size, 1, none⟩ = some (.string V.high) := BVr.out.cell' rfl
          have v2 : wr.cell? ⟨w.heap.size, 2, none⟩ = some (.bool V.unb) := BVr.out.cell' rfl
          have v3 : wr.cell? ⟨w.heap.size, 3, none⟩ = some (.int .i64 V.right) := BVr.out.cell' rfl
          have v5 : wr.cell? ⟨w.heap.size, 5, none⟩ = some (.bool V.held) := BVr.out.cell' rfl
          have v6 : wr.cell? ⟨w.heap.size, 6, none⟩ = some (.int .i64 V.hp) := BVr.out.cell' rfl
          have v7 : wr.cell? ⟨w.heap.size, 7, none⟩ = some (.int .i64 V.hl) := BVr.out.cell' rfl
          have v8 : wr.cell? ⟨w.heap.size, 8, none⟩ = some (.string V.hk) := BVr.out.cell' rfl
          go_wp2_with fail
          refine (before_ok key q.1 _ HK.out.le HZ.out.le).mono ?_
          rintro e w5 ⟨rfl, nq, rfl⟩
          rw [HL.out]
          clear d0
          go_wp2_with fail
          refine (rvin_ok V _ key _ HSZ.out.low HSZ.out.high HK.out).mono ?_
          rintro e w6 ⟨rfl, hf6⟩
          have G6 : Hid (Fr none_ wr w6) := hid_ (((Fr.refl none_ wr).drewN nq).then_none hf6)
          have GW := hid_ (FW.out.then_none G6.out)
          have BO6 := hid_ (BOr.out.fr G6.out id)
          clear hf6 v0 v1 v2 v3 v4 v5 v6 v7 v8
          cases hin : inS V.low V.high V.unb key with
          | false =>
            have HC := hid_ (show rchildM V key = none from if_neg (by rw [hin]; simp))
            clear hin
            have y0 := BO6.out.frozen 0
            have y1 := BO6.out.frozen 1
            have z0 : w6.cell? ⟨w.heap.size + 1, 0, none⟩ = some (.string nilS) := BO6.out.cell' rfl
            have z1 : w6.cell? ⟨w.heap.size + 1, 1, none⟩ = some (.int .i64 0) := BO6.out.cell' rfl
            go_wp2_with fail
            clear y0 y1 z0 z1
            obtain ⟨qb, qf⟩ := box2e BO6.out (.string nilS) (.int .i64 0)
            have q0 := qb.cell' (i := 0) rfl
            have q1 := qb.cell' (i := 1) rfl
            have q0' := BO6.out.cell' (i := 0) rfl
            have q1' := BO6.out.cell' (i := 1) rfl
            first
            | (refine bodyPost_ret (v := .tuple #[.agg #[.string nilS, .int .i64 0], .int .i64 2]) ?_ rfl ⟨.inr ⟨HC.out, rfl⟩, (GW.out).then_only qf (.inr (by omega))⟩
               simp [results, Tryd.results26, go_sem, q0, q1])
            | (refine bodyPost_ret (v := .tuple #[.agg #[.string nilS, .int .i64 0], .int .i64 2]) ?_ rfl ⟨.inr ⟨HC.out, rfl⟩, GW.out⟩
               simp [results, Tryd.results26, go_sem, q0', q1'])
          | true =>
            obtain ⟨q9, hq9⟩ : ∃ q, V.ents[k - 1]? = some q := ⟨_, List.getElem?_eq_getElem (by have := HK0.out; omega)⟩
            have HC : Hid (rchildM V key = some q9) := hid_ (by
              unfold rchildM
              rw [if_pos ⟨hin, by rw [HRD.out]; have := HK0.out; omega⟩, HRD.out, hq9])
            have ho : outAt V.ents k = q9 := by
              obtain ⟨k', rfl⟩ : ∃ k', k = k' + 1 := ⟨k - 1, by have := HK0.out; omega⟩
              simp only [Nat.add_sub_cancel] at hq9
              simp [outAt, hq9]
            have x0 : w6.cell? ⟨w.heap.size + 1 + 1, 0, none⟩ = some (.string q9.1) := by rw [← ho]; exact (BR.out.fr G6.out id).cell' rfl
            have x1 : w6.cell? ⟨w.heap.size + 1 + 1, 1, none⟩ = some (.int .i64 q9.2) := by rw [← ho]; exact (BR.out.fr G6.out id).cell' rfl
            have y0 := BO6.out.frozen 0
            have y1 := BO6.out.frozen 1
            have z0 : w6.cell? ⟨w.heap.size + 1, 0, none⟩ = some (.string nilS) := BO6.out.cell' rfl
            have z1 : w6.cell? ⟨w.heap.size + 1, 1, none⟩ = some (.int .i64 0) := BO6.out.cell' rfl
            clear hin hq9 ho
            go_wp2_with fail
            obtain ⟨qb, qf⟩ := box2e BO6.out (.string q9.1) (.int .i64 q9.2)
            have q0 := qb.cell' (i := 0) rfl
            have q1 := qb.cell' (i := 1) rfl
            refine bodyPost_ret (v := .tuple #[.agg #[.string q9.1, .int .i64 q9.2], .int .i64 0]) ?_ rfl ⟨.inl ⟨q9, HC.out, rfl⟩, GW.out.then_only qf (.inr (by omega))⟩
            simp [results, Tryd.results26, go_sem, q0, q1]
      · have hi1 : ¬ (k : Int) < (V.ents.length : Int) := by omega
        clear hgo
        rcases Nat.eq_zero_or_pos k with hk0 | hk0
        · have hdk : decide (0 < k) = false := by simp [hk0]
          have HC := hid_ (show rchildM V key = none from if_neg (by rw [HRD.out]; simp [hk0]))
          rw [hdk]
          clear hdk hk0
          skip
          have y0 := BOr.out.frozen 0
          have y1 := BOr.out.frozen 1
          have z0 : wr.cell? ⟨w.heap.size + 1, 0, none⟩ = some (.string nilS) := BOr.out.cell' rfl
          have z1 : wr.cell? ⟨w.heap.size + 1, 1, none⟩ = some (.int .i64 0) := BOr.out.cell' rfl
          go_wp2_with fail
          clear y0 y1 z0 z1
          obtain ⟨qb, qf⟩ := box2e BOr.out (.string nilS) (.int .i64 0)
          have q0 := qb.cell' (i := 0) rfl
          have q1 := qb.cell' (i := 1) rfl
          have q0' := BOr.out.cell' (i := 0) rfl
          have q1' := BOr.out.cell' (i := 1) rfl
          first
          | (refine bodyPost_ret (v := .tuple #[.agg #[.string nilS, .int .i64 0], .int .i64 2]) ?_ rfl ⟨.inr ⟨HC.out, rfl⟩, (FW.out).then_only qf (.inr (by omega))⟩
             simp [results, Tryd.results26, go_sem, q0, q1])
          | (refine bodyPost_ret (v := .tuple #[.agg #[.string nilS, .int .i64 0], .int .i64 2]) ?_ rfl ⟨.inr ⟨HC.out, rfl⟩, FW.out⟩
             simp [results, Tryd.results26, go_sem, q0', q1'])
        · have hdk : decide (0 < k) = true := by simp [hk0]
          have HK0 := hid_ hk0
          rw [hdk]
          clear hdk hk0
          have v0 : wr.cell? ⟨w.heap.size, 0, none⟩ = some (.string V.low) := BVr.out.cell' rfl
          have v1 : wr.cell? ⟨w.heap.size, 1, none⟩ = some (.string V.high) := BVr.out.cell' rfl
          have v2 : wr.cell? ⟨w.heap.size, 2, none⟩ = some (.bool V.unb) := BVr.out.cell' rfl
          have v3 : wr.cell? ⟨w.heap.size, 3, none⟩ = some (.int .i64 V.right) := BVr.out.cell' rfl
          have v5 : wr.cell? ⟨w.heap.size, 5, none⟩ = some (.bool V.held) := BVr.out.cell' rfl
          have v6 : wr.cell? ⟨w.heap.size, 6, none⟩ = some (.int .i64 V.hp) := BVr.out.cell' rfl
          have v7 : wr.cell? ⟨w.heap.size, 7, none⟩ = some (.int .i64 V.hl) := BVr.out.cell' rfl
          have v8 : wr.cell? ⟨w.heap.size, 8, none⟩ = some (.string V.hk) := BVr.out.cell' rfl
          skip
          go_wp2_with fail
          refine (rvin_ok V _ key _ HSZ.out.low HSZ.out.high HK.out).mono ?_
          rintro e w6 ⟨rfl, hf6⟩
          have G6 : Hid (Fr none_ wr w6) := hid_ (hf6)
          have GW := hid_ (FW.out.then_none G6.out)
          have BO6 := hid_ (BOr.out.fr G6.out id)
          clear hf6 v0 v1 v2 v3 v4 v5 v6 v7 v8
          cases hin : inS V.low V.high V.unb key with
          | false =>
            have HC := hid_ (show rchildM V key = none from if_neg (by rw [hin]; simp))
            clear hin
            have y0 := BO6.out.frozen 0
            have y1 := BO6.out.frozen 1
            have z0 : w6.cell? ⟨w.heap.size + 1, 0, none⟩ = some (.string nilS) := BO6.out.cell' rfl
            have z1 : w6.cell? ⟨w.heap.size + 1, 1, none⟩ = some (.int .i64 0) := BO6.out.cell' rfl
            go_wp2_with fail
            clear y0 y1 z0 z1
            obtain ⟨qb, qf⟩ := box2e BO6.out (.string nilS) (.int .i64 0)
            have q0 := qb.cell' (i := 0) rfl
            have q1 := qb.cell' (i := 1) rfl
            have q0' := BO6.out.cell' (i := 0) rfl
            have q1' := BO6.out.cell' (i := 1) rfl
            first
            | (refine bodyPost_ret (v := .tuple #[.agg #[.string nilS, .int .i64 0], .int .i64 2]) ?_ rfl ⟨.inr ⟨HC.out, rfl⟩, (GW.out).then_only qf (.inr (by omega))⟩
               simp [results, Tryd.results26, go_sem, q0, q1])
            | (refine bodyPost_ret (v := .tuple #[.agg #[.string nilS, .int .i64 0], .int .i64 2]) ?_ rfl ⟨.inr ⟨HC.out, rfl⟩, GW.out⟩
               simp [results, Tryd.results26, go_sem, q0', q1'])
          | true =>
            obtain ⟨q9, hq9⟩ : ∃ q, V.ents[k - 1]? = some q := ⟨_, List.getElem?_eq_getElem (by have := HK0.out; omega)⟩
            have HC : Hid (rchildM V key = some q9) := hid_ (by
              unfold rchildM
              rw [if_pos ⟨hin, by rw [HRD.out]; have := HK0.out; omega⟩, HRD.out, hq9])
            have ho : outAt V.ents k = q9 := by
              obtain ⟨k', rfl⟩ : ∃ k', k = k' + 1 := ⟨k - 1, by have := HK0.out; omega⟩
              simp only [Nat.add_sub_cancel] at hq9
              simp [outAt, hq9]
            have x0 : w6.cell? ⟨w.heap.size + 1 + 1, 0, none⟩ = some (.string q9.1) := by rw [← ho]; exact (BR.out.fr G6.out id).cell' rfl
            have x1 : w6.cell? ⟨w.heap.size + 1 + 1, 1, none⟩ = some (.int .i64 q9.2) := by rw [← ho]; exact (BR.out.fr G6.out id).cell' rfl
            have y0 := BO6.out.frozen 0
            have y1 := BO6.out.frozen 1
            have z0 : w6.cell? ⟨w.heap.size + 1, 0, none⟩ = some (.string nilS) := BO6.out.cell' rfl
            have z1 : w6.cell? ⟨w.heap.size + 1, 1, none⟩ = some (.int .i64 0) := BO6.out.cell' rfl
            clear hin hq9 ho
            go_wp2_with fail
            obtain ⟨qb, qf⟩ := box2e BO6.out (.string q9.1) (.int .i64 q9.2)
            have q0 := qb.cell' (i := 0) rfl
            have q1 := qb.cell' (i := 1) rfl
            refine bodyPost_ret (v := .tuple #[.agg #[.string q9.1, .int .i64 q9.2], .int .i64 0]) ?_ rfl ⟨.inl ⟨q9, HC.out, rfl⟩, GW.out.then_only qf (.inr (by omega))⟩
            simp [results, Tryd.results26, go_sem, q0, q1]
end Go.Proofs.YtfoljojacakkeaaDoor

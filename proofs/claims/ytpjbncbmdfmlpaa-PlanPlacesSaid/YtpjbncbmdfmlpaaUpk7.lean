/- plan.upkeep by contract. Written by gen_dec7.py. -/
import Derived.Test.YtpjbncbmdfmlpaaDec7
namespace Go.Proofs.Ytpjbncbmdfmlpaa
open Go.RowKit Go.BigFrame
set_option maxRecDepth 100000
set_option linter.unusedVariables false

theorem HoldIs.ex (V : Vw) (page : Int) : ∃ o, HoldIs V page o := by
  have key : ∀ k, k ≤ V.ents.length → NB V page k ∨ ∃ o, HoldIs V page o := by
    intro k
    induction k with
    | zero => exact fun _ => .inl (NB.one V page (by omega))
    | succ k ih =>
      intro hk
      rcases ih (by omega) with h | h
      · rcases Nat.eq_zero_or_pos k with h0 | h0
        · exact .inl (NB.one V page (by omega))
        · obtain ⟨j, rfl⟩ : ∃ j, k = j + 1 := ⟨k - 1, by omega⟩
          obtain ⟨q, hq⟩ : ∃ q, V.ents[j + 1]? = some q := ⟨_, List.getElem?_eq_getElem (by omega)⟩
          obtain ⟨l, hl⟩ : ∃ l, V.ents[j]? = some l := ⟨_, List.getElem?_eq_getElem (by omega)⟩
          by_cases hp : q.2 = page
          · exact .inr ⟨_, .inr ⟨j, l, q, hl, hq, hp, h, rfl⟩⟩
          · exact .inl (h.next hq hp)
      · exact .inr h
  rcases key _ (Nat.le_refl _) with h | h
  · exact ⟨none, .inl ⟨h, rfl⟩⟩
  · exact h
noncomputable def holdM (V : Vw) (page : Int) : Option (Int × Int × ByteArray) := Classical.choose (HoldIs.ex V page)
theorem holdM_is (V : Vw) (page : Int) : HoldIs V page (holdM V page) := Classical.choose_spec (HoldIs.ex V page)
structure L6 where
  a0 : Int
  a1 : Int
  a2 : Int
  rows : Int
  chain : Int
  a5 : Int
abbrev l6A (l : L6) : Array Value := #[.int .i64 l.a0, .int .i64 l.a1, .int .i64 l.a2, .int .i64 l.rows, .int .i64 l.chain, .int .i64 l.a5]
theorem lim_size7 : (Try.prog.info? 28).map (·.size) = some 6 := by kernel_rfl
theorem above_size7 : (Try.prog.info? 77).map (·.size) = some 13 := by kernel_rfl
theorem hold_size7 : (Try.prog.info? 41).map (·.size) = some 3 := by kernel_rfl
noncomputable def upkM (P : Pz) (a : Az) (l : L6) : Option Pn :=
  if l.chain < (P.nc : Int) then some (pnK 6)
  else if l.rows < (P.size : Int) ∧ P.n = 0 then some (pnK 8)
  else if l.rows < (P.size : Int) then some (pnK 7)
  else if P.leaf = false ∨ 0 < P.size ∨ a.some_ = false ∨ a.V.held = true then none
  else (holdM a.V P.n).map fun h => ⟨9, 0, nilS, 0, h.1, h.2.1, h.2.2⟩
def UpkPost (P : Pz) (a : Az) (l : L6) (w : World) (e : Ending) (w' : World) : Prop :=
  ((∃ p, upkM P a l = some p ∧ e = .returned (.tuple #[.agg (pnA p), .bool true])) ∨ (upkM P a l = none ∧ ∃ p, e = .returned (.tuple #[.agg (pnA p), .bool false]))) ∧ Fr none_ w w'
set_option maxHeartbeats 8000000 in
theorem upkeep_big (P : Pz) (a : Az) (l : L6) (w : World) (h : PzOk w P) (ha : VwIn w a.V a.B a.d) (hbig : l.rows < (P.size : Int)) : Calls Try.prog 68 #[.agg (pzA P), .agg (azA a), .agg (l6A l)] w (UpkPost P a l w) := by
  obtain ⟨w0, hw0⟩ : ∃ z, z = (((w.alloc (.cells (pzA P) 45)).alloc (.cells (azA a) 77)).alloc (.cells (l6A l) 28)).alloc (.cells pnZ 81) := ⟨_, rfl⟩
  have f0 : Fr none_ w w0 := by rw [hw0]; exact ((((Fr.refl none_ w).alloc _).alloc _).alloc _).alloc _
  have B0 : Hid (Blk w0 w.heap.size 45 (pzA P)) := hid_ (by rw [hw0]; exact (((Blk.new w _ _).alloc _).alloc _).alloc _)
  have B1 : Hid (Blk w0 (w.heap.size + 1) 77 (azA a)) := hid_ (by rw [hw0]; exact ((Blk.new7 _ _ (by simp)).alloc _).alloc _)
  have B2 : Hid (Blk w0 (w.heap.size + 1 + 1) 28 (l6A l)) := hid_ (by rw [hw0]; exact (Blk.new7 _ _ (by simp)).alloc _)
  have BO : Hid (Blk w0 (w.heap.size + 1 + 1 + 1) 81 pnZ) := hid_ (by rw [hw0]; exact Blk.new7 _ _ (by simp))
  have F0 := hid_ f0
  have HP := hid_ h
  have HA := hid_ (ha.keep f0)
  have hnc := h.nc
  clear f0 h ha
  go_enter Try.func68, Try.ntmps68
  go_upto_region 1 with fail
  change Code.wp _ _ _ _ ((((w.alloc (.cells (pzA P) 45)).alloc (.cells (azA a) 77)).alloc (.cells (l6A l) 28)).alloc (.cells pnZ 81))
  rw [← hw0]
  clear hw0
  have p3 : w0.cell? ⟨w.heap.size, 3, none⟩ = some (.slice P.C P.nc P.x) := B0.out.cell' rfl
  have l4 : w0.cell? ⟨w.heap.size + 1 + 1, 4, none⟩ = some (.int .i64 l.chain) := B2.out.cell' rfl
  obtain ⟨sz, hsz⟩ : ∃ z, z = P.size := ⟨_, rfl⟩
  have HSZ := hid_ hsz
  have hszb : sz ≤ 301000 := by
    have h1 := HP.out.rows
    have h2 := HP.out.iv.ok.ents.1
    rw [hsz]
    unfold Pz.size
    omega
  clear hsz
  have hso := BO.out.lt
  by_cases hc1 : l.chain < (P.nc : Int)
  · have e1 : decide (l.chain < (P.nc : Int)) = true := decide_eq_true hc1
    have HC1 := hid_ hc1
    clear hc1
    go_wp2_with (refine wpList_store_mid rfl 81 (.tmp 6) (.tmp 17) rfl (w.heap.size + 1 + 1 + 1) 0 (pnA (pnK 6)) rfl rfl (BO.out.there7 rfl) plan_size (by simp [Value.oneCell']) ?_; have ov := BO.out.over7 (pnA (pnK 6)).toList rfl; obtain ⟨w9, hw9⟩ : ∃ z, z = w0.setCells (w.heap.size + 1 + 1 + 1) 0 (pnA (pnK 6)).toList := ⟨_, rfl⟩; rw [← hw9] at ov; change wpList _ _ _ _ _ (w0.setCells (w.heap.size + 1 + 1 + 1) 0 (pnA (pnK 6)).toList); rw [← hw9]; have OV := hid_ ov; clear hw9 ov)
    refine bodyPost_ret (results_cell_tmp7 _ _ rfl (w.heap.size + 1 + 1 + 1) 0 (pnA (pnK 6)).toList _ rfl (Blk.range7 (l := (pnA (pnK 6)).toList) OV.out.1) Try.underlying81 rfl plan_size) rfl ⟨.inl ⟨_, by unfold upkM; rw [if_pos (by have := HC1.out; omega)], rfl⟩, F0.out.then_only OV.out.2 (.inr (by omega))⟩
  have e1 : decide (l.chain < (P.nc : Int)) = false := decide_eq_false hc1
  have HC1 := hid_ hc1
  clear hc1
  go_upto_region 3 with fail
  clear p3 l4 e1
  by_cases hc2 : l.rows < (sz : Int)
  · have e2 : decide (l.rows < (sz : Int)) = true := decide_eq_true hc2
    have HC2 : Hid (l.rows < (P.size : Int)) := hid_ (by rw [← HSZ.out]; exact hc2)
    clear hc2
    by_cases hn0 : P.n = 0
    · have e3 : (P.n == 0) = true := by simpa using hn0
      have HN := hid_ hn0
      clear hn0
      go_upto_region 3 with fail
      go_cut [18] (fun u wq => u = .bool true ∧ Fr none_ w0 wq)
      case first =>
        have r3 : w0.cell? ⟨w.heap.size + 1 + 1, 3, none⟩ = some (.int .i64 l.rows) := B2.out.cell' rfl
        have q0 : w0.cell? ⟨w.heap.size, 0, none⟩ = some (.int .i64 P.n) := B0.out.cell' rfl
        have hS0 : (fun w' : World => Fr none_ w0 w') w0.drew := (Fr.refl none_ w0).drew
        refine wp_region_U (m := 11) (S := fun w' : World => Fr none_ w0 w') (by kernel_rfl) ?_
        refine wpAnyU_take2 (i := 0) (v := _) rfl (by kernel_rfl) (by kernel_rfl) (by kernel_rfl) (by kernel_rfl) (fun _ _ _ h => h) (yieldsIf_load_mid (by kernel_rfl) 45 (.tmp 3) rfl w.heap.size 0 rfl (pzA P).toList _ (fun w' hS i v hv => cellFr (Blk.range7 (l := (pzA P).toList) B0.out i v hv) hS) Try.underlying45 rfl page_size) hS0 ?_
        refine wpAnyU_take2 (i := 2) (v := _) rfl (by kernel_rfl) (by kernel_rfl) (by kernel_rfl) (by kernel_rfl) (fun _ _ _ h => h) (.inl ⟨by kernel_rfl, fun w' hS => by have s_r3 := cellFr r3 hS; go_simp; rfl⟩) hS0 ?_
        refine wpAnyU_take2 (i := 3) (v := _) rfl (by kernel_rfl) (by kernel_rfl) (by kernel_rfl) (by kernel_rfl) (fun _ _ _ h => h) (.inl ⟨by kernel_rfl, fun w' hS => by have s_r3 := cellFr r3 hS; go_simp; rfl⟩) hS0 ?_
        clear hS0
        refine wpAnyU_one7 (i := 1) rfl (by kernel_rfl) (by kernel_rfl) ?_
        go_simp
        refine (psize_ok P w0.drew HP.out.rows (by have := HP.out.iv.ok.ents.1; exact this)).mono ?_
        rintro e w1 ⟨rfl, hf9⟩
        rw [← HSZ.out]
        have fq : Fr none_ w0 w1 := (Fr.refl none_ w0).drew.then_none hf9
        have FQ := hid_ fq
        clear hf9
        refine ⟨FQ.out, ?_⟩
        replace q0 := cellFr q0 fq
        clear fq
        refine wpAnyU_take2 (i := 4) (v := _) rfl (by kernel_rfl) (by kernel_rfl) (by kernel_rfl) (by kernel_rfl) (fun _ _ _ h => h) (.inl ⟨by kernel_rfl, fun w' hS => by skip; go_simp; rfl⟩) FQ.out ?_
        refine wpAnyU_take2 (i := 5) (v := _) rfl (by kernel_rfl) (by kernel_rfl) (by kernel_rfl) (by kernel_rfl) (fun _ _ _ h => h) (.inl ⟨by kernel_rfl, fun w' hS => by skip; go_simp; rfl⟩) FQ.out ?_
        refine wpAnyU_take2 (i := 6) (v := _) rfl (by kernel_rfl) (by kernel_rfl) (by kernel_rfl) (by kernel_rfl) (fun _ _ _ h => h) (.inl ⟨by kernel_rfl, fun w' hS => by have s_q := cellFrS (S := none_) (B0.out.cell' (i := 0) rfl) hS id; go_simp; rfl⟩) FQ.out ?_
        refine wpAnyU_take2 (i := 7) (v := _) rfl (by kernel_rfl) (by kernel_rfl) (by kernel_rfl) (by kernel_rfl) (fun _ _ _ h => h) (.inl ⟨by kernel_rfl, fun w' hS => by have s_q := cellFrS (S := none_) (B0.out.cell' (i := 0) rfl) hS id; go_simp; rfl⟩) FQ.out ?_
        refine wpAnyU_take2 (i := 8) (v := _) rfl (by kernel_rfl) (by kernel_rfl) (by kernel_rfl) (by kernel_rfl) (fun _ _ _ h => h) (.inl ⟨by kernel_rfl, fun w' hS => by have s_q := cellFrS (S := none_) (B0.out.cell' (i := 0) rfl) hS id; go_simp; rfl⟩) FQ.out ?_
        refine wpAnyU_take2 (i := 9) (v := _) rfl (by kernel_rfl) (by kernel_rfl) (by kernel_rfl) (by kernel_rfl) (fun _ _ _ h => h) (.inl ⟨by kernel_rfl, fun w' hS => by skip; go_simp; rfl⟩) FQ.out ?_
        refine wpAnyU_take2 (i := 10) (v := _) rfl (by kernel_rfl) (by kernel_rfl) (by kernel_rfl) (by kernel_rfl) (fun _ _ _ h => h) (.inl ⟨by kernel_rfl, fun w' hS => by skip; go_simp; rfl⟩) FQ.out ?_
        refine wpAnyU_done (by kernel_rfl) ?_ _
        clear r3 q0
        go_wp2
        go_meet
        case rel => exact ⟨rfl, FQ.out⟩
      case rest =>
      obtain ⟨rfl, hf⟩ := hcut
      obtain ⟨w1, hnw⟩ : ∃ z, z = wc := ⟨_, rfl⟩
      rw [← hnw] at hf ⊢
      clear hnw
      replace F0 := hid_ (F0.out.then_none hf)
      replace B0 := hid_ (B0.out.fr hf id)
      replace B1 := hid_ (B1.out.fr hf id)
      replace B2 := hid_ (B2.out.fr hf id)
      replace BO := hid_ (BO.out.fr hf id)
      replace HA := hid_ (HA.out.keep hf)
      clear hf
      go_wp2_with (refine wpList_store_mid rfl 81 (.tmp 6) (.tmp 29) rfl (w.heap.size + 1 + 1 + 1) 0 (pnA (pnK 8)) rfl rfl (BO.out.there7 rfl) plan_size (by simp [Value.oneCell']) ?_; have ov := BO.out.over7 (pnA (pnK 8)).toList rfl; obtain ⟨w9, hw9⟩ : ∃ z, z = w1.setCells (w.heap.size + 1 + 1 + 1) 0 (pnA (pnK 8)).toList := ⟨_, rfl⟩; rw [← hw9] at ov; change wpList _ _ _ _ _ (w1.setCells (w.heap.size + 1 + 1 + 1) 0 (pnA (pnK 8)).toList); rw [← hw9]; have OV := hid_ ov; clear hw9 ov)
      refine bodyPost_ret (results_cell_tmp7 _ _ rfl (w.heap.size + 1 + 1 + 1) 0 (pnA (pnK 8)).toList _ rfl (Blk.range7 (l := (pnA (pnK 8)).toList) OV.out.1) Try.underlying81 rfl plan_size) rfl ⟨.inl ⟨_, by unfold upkM; rw [if_neg (by have := HC1.out; omega), if_pos ⟨by have := HC2.out; omega, HN.out⟩], rfl⟩, F0.out.then_only OV.out.2 (.inr (by omega))⟩
    · have e3 : (P.n == 0) = false := by simpa using hn0
      have HN := hid_ hn0
      clear hn0
      go_upto_region 3 with fail
      go_cut [18] (fun u wq => u = .bool false ∧ Fr none_ w0 wq)
      case first =>
        have r3 : w0.cell? ⟨w.heap.size + 1 + 1, 3, none⟩ = some (.int .i64 l.rows) := B2.out.cell' rfl
        have q0 : w0.cell? ⟨w.heap.size, 0, none⟩ = some (.int .i64 P.n) := B0.out.cell' rfl
        have hS0 : (fun w' : World => Fr none_ w0 w') w0.drew := (Fr.refl none_ w0).drew
        refine wp_region_U (m := 11) (S := fun w' : World => Fr none_ w0 w') (by kernel_rfl) ?_
        refine wpAnyU_take2 (i := 0) (v := _) rfl (by kernel_rfl) (by kernel_rfl) (by kernel_rfl) (by kernel_rfl) (fun _ _ _ h => h) (yieldsIf_load_mid (by kernel_rfl) 45 (.tmp 3) rfl w.heap.size 0 rfl (pzA P).toList _ (fun w' hS i v hv => cellFr (Blk.range7 (l := (pzA P).toList) B0.out i v hv) hS) Try.underlying45 rfl page_size) hS0 ?_
        refine wpAnyU_take2 (i := 2) (v := _) rfl (by kernel_rfl) (by kernel_rfl) (by kernel_rfl) (by kernel_rfl) (fun _ _ _ h => h) (.inl ⟨by kernel_rfl, fun w' hS => by have s_r3 := cellFr r3 hS; go_simp; rfl⟩) hS0 ?_
        refine wpAnyU_take2 (i := 3) (v := _) rfl (by kernel_rfl) (by kernel_rfl) (by kernel_rfl) (by kernel_rfl) (fun _ _ _ h => h) (.inl ⟨by kernel_rfl, fun w' hS => by have s_r3 := cellFr r3 hS; go_simp; rfl⟩) hS0 ?_
        clear hS0
        refine wpAnyU_one7 (i := 1) rfl (by kernel_rfl) (by kernel_rfl) ?_
        go_simp
        refine (psize_ok P w0.drew HP.out.rows (by have := HP.out.iv.ok.ents.1; exact this)).mono ?_
        rintro e w1 ⟨rfl, hf9⟩
        rw [← HSZ.out]
        have fq : Fr none_ w0 w1 := (Fr.refl none_ w0).drew.then_none hf9
        have FQ := hid_ fq
        clear hf9
        refine ⟨FQ.out, ?_⟩
        replace q0 := cellFr q0 fq
        clear fq
        refine wpAnyU_take2 (i := 4) (v := _) rfl (by kernel_rfl) (by kernel_rfl) (by kernel_rfl) (by kernel_rfl) (fun _ _ _ h => h) (.inl ⟨by kernel_rfl, fun w' hS => by skip; go_simp; rfl⟩) FQ.out ?_
        refine wpAnyU_take2 (i := 5) (v := _) rfl (by kernel_rfl) (by kernel_rfl) (by kernel_rfl) (by kernel_rfl) (fun _ _ _ h => h) (.inl ⟨by kernel_rfl, fun w' hS => by skip; go_simp; rfl⟩) FQ.out ?_
        refine wpAnyU_take2 (i := 6) (v := _) rfl (by kernel_rfl) (by kernel_rfl) (by kernel_rfl) (by kernel_rfl) (fun _ _ _ h => h) (.inl ⟨by kernel_rfl, fun w' hS => by have s_q := cellFrS (S := none_) (B0.out.cell' (i := 0) rfl) hS id; go_simp; rfl⟩) FQ.out ?_
        refine wpAnyU_take2 (i := 7) (v := _) rfl (by kernel_rfl) (by kernel_rfl) (by kernel_rfl) (by kernel_rfl) (fun _ _ _ h => h) (.inl ⟨by kernel_rfl, fun w' hS => by have s_q := cellFrS (S := none_) (B0.out.cell' (i := 0) rfl) hS id; go_simp; rfl⟩) FQ.out ?_
        refine wpAnyU_take2 (i := 8) (v := _) rfl (by kernel_rfl) (by kernel_rfl) (by kernel_rfl) (by kernel_rfl) (fun _ _ _ h => h) (.inl ⟨by kernel_rfl, fun w' hS => by have s_q := cellFrS (S := none_) (B0.out.cell' (i := 0) rfl) hS id; go_simp; rfl⟩) FQ.out ?_
        refine wpAnyU_take2 (i := 9) (v := _) rfl (by kernel_rfl) (by kernel_rfl) (by kernel_rfl) (by kernel_rfl) (fun _ _ _ h => h) (.inl ⟨by kernel_rfl, fun w' hS => by skip; go_simp; rfl⟩) FQ.out ?_
        refine wpAnyU_take2 (i := 10) (v := _) rfl (by kernel_rfl) (by kernel_rfl) (by kernel_rfl) (by kernel_rfl) (fun _ _ _ h => h) (.inl ⟨by kernel_rfl, fun w' hS => by skip; go_simp; rfl⟩) FQ.out ?_
        refine wpAnyU_done (by kernel_rfl) ?_ _
        clear r3 q0
        go_wp2
        go_meet
        case rel => exact ⟨rfl, FQ.out⟩
      case rest =>
      obtain ⟨rfl, hf⟩ := hcut
      obtain ⟨w1, hnw⟩ : ∃ z, z = wc := ⟨_, rfl⟩
      rw [← hnw] at hf ⊢
      clear hnw
      replace F0 := hid_ (F0.out.then_none hf)
      replace B0 := hid_ (B0.out.fr hf id)
      replace B1 := hid_ (B1.out.fr hf id)
      replace B2 := hid_ (B2.out.fr hf id)
      replace BO := hid_ (BO.out.fr hf id)
      replace HA := hid_ (HA.out.keep hf)
      clear hf
      go_upto_region 5 with fail
      go_cut [30] (fun u wq => u = .bool true ∧ Fr none_ w1 wq)
      case first =>
        have r3 : w1.cell? ⟨w.heap.size + 1 + 1, 3, none⟩ = some (.int .i64 l.rows) := B2.out.cell' rfl
        have q0 : w1.cell? ⟨w.heap.size, 0, none⟩ = some (.int .i64 P.n) := B0.out.cell' rfl
        have hS0 : (fun w' : World => Fr none_ w1 w') w1.drew := (Fr.refl none_ w1).drew
        refine wp_region_U (m := 6) (S := fun w' : World => Fr none_ w1 w') (by kernel_rfl) ?_
        refine wpAnyU_take2 (i := 0) (v := _) rfl (by kernel_rfl) (by kernel_rfl) (by kernel_rfl) (by kernel_rfl) (fun _ _ _ h => h) (yieldsIf_load_mid (by kernel_rfl) 45 (.tmp 3) rfl w.heap.size 0 rfl (pzA P).toList _ (fun w' hS i v hv => cellFr (Blk.range7 (l := (pzA P).toList) B0.out i v hv) hS) Try.underlying45 rfl page_size) hS0 ?_
        refine wpAnyU_take2 (i := 2) (v := _) rfl (by kernel_rfl) (by kernel_rfl) (by kernel_rfl) (by kernel_rfl) (fun _ _ _ h => h) (.inl ⟨by kernel_rfl, fun w' hS => by have s_r3 := cellFr r3 hS; go_simp; rfl⟩) hS0 ?_
        refine wpAnyU_take2 (i := 3) (v := _) rfl (by kernel_rfl) (by kernel_rfl) (by kernel_rfl) (by kernel_rfl) (fun _ _ _ h => h) (.inl ⟨by kernel_rfl, fun w' hS => by have s_r3 := cellFr r3 hS; go_simp; rfl⟩) hS0 ?_
        clear hS0
        refine wpAnyU_one7 (i := 1) rfl (by kernel_rfl) (by kernel_rfl) ?_
        go_simp
        refine (psize_ok P w1.drew HP.out.rows (by have := HP.out.iv.ok.ents.1; exact this)).mono ?_
        rintro e w2 ⟨rfl, hf9⟩
        rw [← HSZ.out]
        have fq : Fr none_ w1 w2 := (Fr.refl none_ w1).drew.then_none hf9
        have FQ := hid_ fq
        clear hf9
        refine ⟨FQ.out, ?_⟩
        replace q0 := cellFr q0 fq
        clear fq
        refine wpAnyU_take2 (i := 4) (v := _) rfl (by kernel_rfl) (by kernel_rfl) (by kernel_rfl) (by kernel_rfl) (fun _ _ _ h => h) (.inl ⟨by kernel_rfl, fun w' hS => by skip; go_simp; rfl⟩) FQ.out ?_
        refine wpAnyU_take2 (i := 5) (v := _) rfl (by kernel_rfl) (by kernel_rfl) (by kernel_rfl) (by kernel_rfl) (fun _ _ _ h => h) (.inl ⟨by kernel_rfl, fun w' hS => by skip; go_simp; rfl⟩) FQ.out ?_
        refine wpAnyU_done (by kernel_rfl) ?_ _
        clear r3 q0
        go_wp2
        go_meet
        case rel => exact ⟨rfl, FQ.out⟩
      case rest =>
      obtain ⟨rfl, hf⟩ := hcut
      obtain ⟨w2, hnw⟩ : ∃ z, z = wc := ⟨_, rfl⟩
      rw [← hnw] at hf ⊢
      clear hnw
      replace F0 := hid_ (F0.out.then_none hf)
      replace B0 := hid_ (B0.out.fr hf id)
      replace B1 := hid_ (B1.out.fr hf id)
      replace B2 := hid_ (B2.out.fr hf id)
      replace BO := hid_ (BO.out.fr hf id)
      replace HA := hid_ (HA.out.keep hf)
      clear hf
      go_wp2_with (refine wpList_store_mid rfl 81 (.tmp 6) (.tmp 36) rfl (w.heap.size + 1 + 1 + 1) 0 (pnA (pnK 7)) rfl rfl (BO.out.there7 rfl) plan_size (by simp [Value.oneCell']) ?_; have ov := BO.out.over7 (pnA (pnK 7)).toList rfl; obtain ⟨w9, hw9⟩ : ∃ z, z = w2.setCells (w.heap.size + 1 + 1 + 1) 0 (pnA (pnK 7)).toList := ⟨_, rfl⟩; rw [← hw9] at ov; change wpList _ _ _ _ _ (w2.setCells (w.heap.size + 1 + 1 + 1) 0 (pnA (pnK 7)).toList); rw [← hw9]; have OV := hid_ ov; clear hw9 ov)
      refine bodyPost_ret (results_cell_tmp7 _ _ rfl (w.heap.size + 1 + 1 + 1) 0 (pnA (pnK 7)).toList _ rfl (Blk.range7 (l := (pnA (pnK 7)).toList) OV.out.1) Try.underlying81 rfl plan_size) rfl ⟨.inl ⟨_, by unfold upkM; rw [if_neg (by have := HC1.out; omega), if_neg (fun h => HN.out h.2), if_pos (by have := HC2.out; omega)], rfl⟩, F0.out.then_only OV.out.2 (.inr (by omega))⟩
  exact absurd (by rw [HSZ.out]; exact hbig) hc2
end Go.Proofs.Ytpjbncbmdfmlpaa

/- InstallHead's walk. Written by gen_head12.py. -/
import Derived.Test.YthcpccddcgbanaaHd12
import Derived.Test.YthcpccddcgbanaaFirst12
import Derived.Deep.DeepCutAuto
import Derived.Deep.QuietTactic
import Derived.Deep.MidRow
namespace Go.Proofs.Ythcpccddcgbanaa
open Go.RowKit Go.BigFrame Go.ChangeShapes Go.WideShapes
set_option maxRecDepth 100000
set_option linter.unusedVariables false

section
/-- wpQuiet, closed to the unifier. -/
structure Qw12 (P : Program) (ops : Array Oper) (C : World → Prop) (Q : Act → Prop) (l : List Oper) (a : Act) : Prop where
  h : wpQuiet P ops C Q l a
variable {P : Program} {ops : Array Oper} {C : World → Prop} {Q : Act → Prop} {a : Act} {o : Oper} {rest : List Oper}
theorem q_val12 (d : Option Tmp) (v : Value) (hd : o.dst = d) (hw : Region.wanted o (yielded ops a.tmps) = true) (hx : ∀ w, C w → (execOp a.eval o).run P w = .ok (.value v) w) (h : Qw12 P ops C Q rest (a.put d v)) : Qw12 P ops C Q (o :: rest) a := by
  subst hd
  refine ⟨wpQuiet_want hw fun K hK => ⟨v, fun w hC => ?_, hK _ h.h⟩⟩
  unfold Oper.quietAt
  rw [hx w hC]
  exact ⟨rfl, rfl⟩
theorem q_call12 (d : Option Tmp) (v : Value) (f : FuncId) (vs : Array Value) (hd : o.dst = d) (hw : Region.wanted o (yielded ops a.tmps) = true) (hx : ∀ w, C w → (execOp a.eval o).run P w = .ok (.enter f vs) w) (hc : ∀ w, C w → Calls P f vs w fun e w' => e = .returned v ∧ C w') (h : Qw12 P ops C Q rest (a.put d v)) : Qw12 P ops C Q (o :: rest) a := by
  subst hd
  refine ⟨wpQuiet_want hw fun K hK => ⟨v, fun w hC => ?_, hK _ h.h⟩⟩
  unfold Oper.quietAt
  rw [hx w hC]
  exact ⟨rfl, hc w hC⟩
theorem run_loadAt_cell12 (w : World) (ad : Addr) (ty : TypeId) (v : Value) (d : TypeDesc) (hc : w.cell? ad = some v) (hu : P.underlying ty = some d) (hd : d.isRow = false) :
    (Instr.loadAt ty (.pointer (some ad))).run P w = .ok v w := by
  have hagg : (isAgg ty).run P w = .ok false w := by
    unfold isAgg
    rw [Sem.run_bind, run_underlying hu w]
    cases d <;> simp_all
  have hl : (load ad).run P w = .ok v w := by
    rw [run_load, hc]
  simp only [Instr.loadAt, Instr.sureAddr, loadVar, Sem.run_bind, Sem.run_pure, Result.andThen_ok, hagg, Bool.false_eq_true, if_false, hl]
theorem q_cell12 (d : Option Tmp) (v : Value) (ty : TypeId) (x : Operand) (ad : Addr) (td : TypeDesc) (hd : o.dst = d) (hw : Region.wanted o (yielded ops a.tmps) = true) (ho : o.op = .load ty x) (hx : a.eval x = .pointer (some ad)) (hc : ∀ w, C w → w.cell? ad = some v) (hu : P.underlying ty = some td) (hr : td.isRow = false) (h : Qw12 P ops C Q rest (a.put d v)) : Qw12 P ops C Q (o :: rest) a :=
  q_val12 d v hd hw (fun w hC => by
    unfold execOp
    simp only [ho, hx, Sem.run_bind, Sem.run_pure, Result.andThen_ok, run_loadAt_cell12 w ad ty v td (hc w hC) hu hr]) h
theorem q_mid12 (d : Option Tmp) (cs : List Value) (ty : TypeId) (x : Operand) (b off : Nat) (td : TypeDesc) (hd : o.dst = d) (hw : Region.wanted o (yielded ops a.tmps) = true) (ho : o.op = .load ty x) (hx : a.eval x = .pointer (some ⟨b, off, none⟩)) (hc : ∀ w, C w → w.rangeAt b off cs) (hu : P.underlying ty = some td) (hr : td.isRow = true) (hi : (P.info? ty).map (·.size) = some cs.length) (h : Qw12 P ops C Q rest (a.put d (.agg cs.toArray))) : Qw12 P ops C Q (o :: rest) a :=
  q_val12 d _ hd hw (fun w hC => by
    unfold execOp
    simp only [ho, hx, Sem.run_bind, Sem.run_pure, Result.andThen_ok, run_loadAt_mid w b off ty cs td (hc w hC) hu hr hi]) h
theorem q_done12 (h : Q a) : Qw12 P ops C Q [] a := ⟨h⟩
theorem wp_region_q12 (C : World → Prop) {id : Nat} {K : Exit → Act → World → Prop} {l : List Oper} {w : World} (hm : P.follows .mixedOrders = true) (hB : Region.lexB .any l.toArray = true) (h0 : C w.drew)
    (h : Qw12 P l.toArray C (fun a' => ∀ w', C w' → K .normal a' w') l a) : (Code.region id l.toArray true).wp P K a w :=
  wp_region_quiet (C := C) hm hB h0 (by simpa using h.h)
/-- An operation whose value is a function's of the model. -/
theorem q_op12 (d : Option Tmp) (v : Value) (m : Sem Value) (hd : o.dst = d) (hw : Region.wanted o (yielded ops a.tmps) = true) (he : execOp a.eval o = (do pure (.value (← m)))) (hx : ∀ w, C w → m.run P w = .ok v w) (h : Qw12 P ops C Q rest (a.put d v)) : Qw12 P ops C Q (o :: rest) a :=
  q_val12 d v hd hw (fun w hC => by rw [he]; simp only [Sem.run_bind, Sem.run_pure, Result.andThen_ok, hx w hC]) h
theorem q_bool12 (d : Option Tmp) (b c : Bool) (hbc : b = c) (hd : o.dst = d) (hw : Region.wanted o (yielded ops a.tmps) = true) (hx : ∀ w, C w → (execOp a.eval o).run P w = .ok (.value (.bool b)) w) (h : Qw12 P ops C Q rest (a.put d (.bool c))) : Qw12 P ops C Q (o :: rest) a :=
  q_val12 d (.bool c) hd hw (fun w hC => by rw [← hbc]; exact hx w hC) h
end
theorem Blk.all12 {w : World} {g : Nat} {t : TypeId} {cs : Array Value} (h : Blk w g t cs) : w.rangeAt g 0 cs.toList := fun j v hv => by
  rw [Nat.zero_add]
  exact h.cell' (by simpa using hv)
theorem q_blk12 {P : Program} {ops : Array Oper} {C : World → Prop} {Q : Act → Prop} {a : Act} {o : Oper} {rest : List Oper} (d : Option Tmp) (arr : Array Value) (ty : TypeId) (x : Operand) (b n : Nat) (td : TypeDesc) (hd : o.dst = d) (hw : Region.wanted o (yielded ops a.tmps) = true) (ho : o.op = .load ty x) (hx : a.eval x = .pointer (some ⟨b, 0, none⟩)) (hc : ∀ w, C w → Blk w b ty arr) (hu : P.underlying ty = some td) (hr : td.isRow = true) (hi : (P.info? ty).map (·.size) = some n) (hn : arr.size = n) (h : Qw12 P ops C Q rest (a.put d (.agg arr))) : Qw12 P ops C Q (o :: rest) a := by
  obtain ⟨L⟩ := arr
  exact q_mid12 d L ty x b 0 td hd hw ho hx (fun w hC => (hc w hC).all12) hu hr (by rw [hi, ← hn]; rfl) h
theorem neqr12 (x y : Operand) (s g : Int) (w : World) (h : (eqGuard .neq 34 x y (.agg #[.int .i64 s, .int .i64 g]) (.agg #[.int .i64 s, .int .i64 g])).run Try.prog w = .ok () w) : (do eqGuard .neq 34 x y (.agg #[.int .i64 s, .int .i64 g]) (.agg #[.int .i64 s, .int .i64 g]); binOp .neq 34 (.agg #[.int .i64 s, .int .i64 g]) (.agg #[.int .i64 s, .int .i64 g])).run Try.prog w = .ok (.bool false) w := by
  rw [Sem.run_bind, h, Result.andThen_ok, neq_ref]
  simp
theorem Many.ticked {W w w' : World} {m : Nat} {k k' : Int} {l : Lm} {x : St} {cab : Nat} {c0 : Int} {L : List In1} (h : Many W w m k l x cab c0 L) (hM : Mm w' m k' l x) (h0 : 0 ≤ k') (h1 : k' ≤ 100000) (hf : Fr (mall m x) w w') : Many W w' m k' l x cab c0 L := by
  obtain ⟨cs, hcb⟩ := h.cb
  have off : ¬ mall m x cab := h.M.mall_ty hcb (by decide)
  exact ⟨hM, h0, h1, h.hW, cellFrS h.cc hf off, ⟨cs, hcb.fr hf off⟩, fun z hz => by
    have e := h.e z hz
    exact ⟨e.I.mall h.M hf, e.d, e.j.mall h.M hf h.hW, e.mv, e.nw, e.zJ, e.off, e.hWB, Nat.le_trans e.hB hf.size, e.qc⟩, h.dis⟩
/-- What an installer's accesses leave alone: blocks that are older than it, of other types than a memory's and the calls' number's. -/
theorem Env.old {W w : World} {m : Nat} {k : Int} {l : Lm} {x : St} {B i : Nat} {D : Dt} {a : Ia} {J : Jd} {q : Jl} {c0 : Int} (h : Env W w m k l x B i D a J q c0) {g : Nat} {t : TypeId} {cs : Array Value} (hb : Blk w g t cs) (ht : t ≠ 85 ∧ t ≠ 113 ∧ t ≠ 115 ∧ t ≠ 110) (hg : g < B) (hc : t ≠ 3) : ¬ mfc m x i a q.cab g := by
  rintro (e | e | e)
  · exact h.M.mall_ty hb ht e
  · have := h.I.foot_le e
    omega
  · obtain ⟨cs2, hb2⟩ := h.cb
    have e2 : g = q.cab := e
    subst e2
    exact hc (hb.uniq hb2).1
theorem Mm.job {w w' : World} {m : Nat} {k : Int} {l : Lm} {x : St} {b : Nat} {cs : Array Value} (h : Mm w m k l x) (hb : Blk w b 46 cs) (hf : Fr (only b) w w') : Mm w' m k l x :=
  h.ty hf (fun g e => by rw [show g = b from e]; exact ⟨_, cs, hb, by decide⟩)
theorem wpList_load_midG12 {P : Program} {ops : Array Oper} {rest : List Oper} {op : Oper} {a : Act} {w : World} {Q : Exit → Act → World → Prop} (hw : Region.wanted op (yielded ops a.tmps) = true) (ty : TypeId) (x : Operand) (ho : op.op = .load ty x)
    (b o : Nat) (hx : a.eval x = .pointer (some ⟨b, o, none⟩)) (cs : List Value) (d : TypeDesc) (hc : w.rangeAt b o cs)
    (hu : P.underlying ty = some d) (hd : d.isRow = true) (hi : (P.info? ty).map (·.size) = some cs.length)
    (h : wpList P ops Q rest (a.put op.dst (.agg cs.toArray)) w) : wpList P ops Q (op :: rest) a w := by
  unfold wpList
  rw [if_pos hw]
  exact .inl (wp_load_mid ty x ho b o hx cs d hc hu hd hi h)
theorem jbase_ok {J : Jd} (h : ∀ R ∈ J.bases, RowsOk R) (k : Nat) : RowsOk (jbase J k) := by
  unfold jbase noNext RowsOk
  cases hk : J.bases[k]? with
  | none => exact ⟨Nat.zero_le _, Nat.zero_le _⟩
  | some R => exact h R (List.mem_of_getElem? hk)
theorem jhead_rows (J : Jd) (ps : List Int) : (jhead J ps).rows = J.head.rows ∧ (jhead J ps).ents = J.head.ents := by
  unfold jhead
  split <;> exact ⟨rfl, rfl⟩
/-- What stays of the job's box, and of the pages' copy, where a memory is accessed. -/
structure Aft (W w : World) (m : Nat) (k : Int) (lm : Lm) (x : St) (jb : Nat) (J : Jd) (y : Jl) (b : Nat) (pA : Option Addr) (pc : Nat) (ps : List Int) : Prop where
  f : Fr none_ W w
  M : Mm w m k lm x
  k0 : 0 ≤ k
  hW : ∀ b, mall m x b → W.heap.size ≤ b
  bj : Blk w jb 46 (jobB J y)
  pg : w.ownsRow b 3 1 (.slice pA ps.length pc) ps.length (intF ps)
theorem Aft.keep {W w w' : World} {m : Nat} {k : Int} {lm : Lm} {x : St} {jb : Nat} {J : Jd} {y : Jl} {b : Nat} {pA : Option Addr} {pc : Nat} {ps : List Int} (h : Aft W w m k lm x jb J y b pA pc ps) (hf : Fr none_ w w') : Aft W w' m k lm x jb J y b pA pc ps := ⟨h.f.then_none hf, h.M.keep hf, h.k0, h.hW, h.bj.fr hf id, own_none h.pg hf⟩
theorem Aft.off {W w w' : World} {m : Nat} {k : Int} {lm : Lm} {x : St} {jb : Nat} {J : Jd} {y : Jl} {b : Nat} {pA : Option Addr} {pc : Nat} {ps : List Int} (h : Aft W w m k lm x jb J y b pA pc ps) {g : Nat} {cs : Array Value} (hf : Fr (only g) w w') (hg : W.heap.size ≤ g) (hb : Blk w g 44 cs) : Aft W w' m k lm x jb J y b pA pc ps :=
  ⟨h.f.then_only hf (.inr hg), h.M.beside hf hb (by decide) (by decide), h.k0, h.hW, h.bj.fr hf (only_ne (Blk.ne_ h.bj hb (by decide))), own_fr h.pg hf (fun k hk e => own_blk_ne h.pg hb (by decide) (by rw [hk, show k = g from e]))⟩
theorem Aft.acc {W w w' : World} {m : Nat} {k : Int} {lm : Lm} {x : St} {jb : Nat} {J : Jd} {y : Jl} {b : Nat} {pA : Option Addr} {pc : Nat} {ps : List Int} (h : Aft W w m k lm x jb J y b pA pc ps) (hM : Mm w' m (k + 1) lm x) (hf : Fr (mall m x) w w') : Aft W w' m (k + 1) lm x jb J y b pA pc ps :=
  ⟨h.f.trans hf (fun _ _ => id) (fun g hg e => by have := h.hW g e; omega), hM, by have := h.k0; omega, h.hW, h.bj.fr hf (h.M.mall_ty h.bj (by decide)), own_fr h.pg hf (fun g hg => by obtain ⟨_, cs, hb⟩ := own_blk h.pg hg; exact h.M.mall_ty hb (by decide))⟩
set_option maxHeartbeats 16000000 in
theorem head12_walk (s p tt r c q : Int) (J : Jd) (y : Jl) (W : World) (hJ : JobRaw W J y) :
    Calls Try.prog 4 #[.agg #[.int .i64 s, .int .i64 p, .int .i64 tt, .int .i64 r, .int .i64 c, .int .i64 q], .agg (jobB J y)] W fun e w' => e = .returned (.bool true) ∧ Fr none_ W w' := by
  have HJ := hid_ hJ
  have F := hid_ (Fr.refl none_ W)
  clear hJ
  go_enter Try.func4, Try.ntmps4
  go_upto_region 1 with fail
  obtain ⟨w0, hw0⟩ : ∃ z, z = (W.alloc (.cells #[.int .i64 s, .int .i64 p, .int .i64 tt, .int .i64 r, .int .i64 c, .int .i64 q] 23)).alloc (.cells (jobB J y) 46) := ⟨_, rfl⟩
  have f0 : Fr none_ W w0 := by rw [hw0]; exact ((Fr.refl none_ W).alloc _).alloc _
  have BL := hid_ (show Blk w0 W.heap.size 23 #[.int .i64 s, .int .i64 p, .int .i64 tt, .int .i64 r, .int .i64 c, .int .i64 q] by rw [hw0]; exact (Blk.new W _ _).alloc _)
  have BJ := hid_ (show Blk w0 (W.heap.size + 1) 46 (jobB J y) by rw [hw0]; have := Blk.new (W.alloc (.cells #[.int .i64 s, .int .i64 p, .int .i64 tt, .int .i64 r, .int .i64 c, .int .i64 q] 23)) 46 (jobB J y); rwa [World.size_alloc] at this)
  replace F := hid_ f0
  change Code.wp _ _ _ _ ((W.alloc (.cells #[.int .i64 s, .int .i64 p, .int .i64 tt, .int .i64 r, .int .i64 c, .int .i64 q] 23)).alloc (.cells (jobB J y) 46))
  rw [← hw0]
  clear hw0 f0
  have v0 : w0.cell? ⟨W.heap.size, 0, none⟩ = some (.int .i64 s) := BL.out.cell' rfl
  have v1 : w0.cell? ⟨W.heap.size, 1, none⟩ = some (.int .i64 p) := BL.out.cell' rfl
  have v2 : w0.cell? ⟨W.heap.size, 2, none⟩ = some (.int .i64 tt) := BL.out.cell' rfl
  have v3 : w0.cell? ⟨W.heap.size, 3, none⟩ = some (.int .i64 r) := BL.out.cell' rfl
  have v4 : w0.cell? ⟨W.heap.size, 4, none⟩ = some (.int .i64 c) := BL.out.cell' rfl
  have v5 : w0.cell? ⟨W.heap.size, 5, none⟩ = some (.int .i64 q) := BL.out.cell' rfl
  go_upto_region 2 with (first | (refine wpList_load_mid rfl 46 (.tmp 3) rfl (W.heap.size + 1) 0 rfl (jobB J y).toList _ (show w0.rangeAt (W.heap.size + 1) 0 (jobB J y).toList from BJ.out.range (fun j v hv => by simpa using hv)) Try.underlying46 rfl jb_size ?_))
  obtain ⟨w1, hw1⟩ : ∃ z, z = w0.alloc (.cells (jobB J y) 46) := ⟨_, rfl⟩
  have f1 : Fr none_ w0 w1 := by rw [hw1]; exact (Fr.refl none_ w0).alloc _
  have BX := hid_ (show Blk w1 w0.heap.size 46 (jobB J y) by rw [hw1]; exact Blk.new w0 _ _)
  replace BL := hid_ (BL.out.fr f1 id)
  replace BJ := hid_ (BJ.out.fr f1 id)
  replace F := hid_ (F.out.then_none f1)
  have HIN := hid_ (show JobsIn w1 (some ⟨w0.heap.size, 0, none⟩) 1 [(J, y)] from ⟨rfl, fun _ => ⟨w0.heap.size, 0, rfl, BX.out.lt, fun k z hz => by
    cases k with
    | zero =>
      obtain rfl : (J, y) = z := by simpa using hz
      exact ⟨BX.out.range (fun j v hv => by simpa using hv), HJ.out.keep F.out⟩
    | succ k => simp at hz⟩⟩)
  change Calls _ _ _ (w0.alloc (.cells (jobB J y) 46)) _
  rw [← hw1]
  clear hw1 f1
  refine (few12_ok s p tt r c q (some ⟨w0.heap.size, 0, none⟩) 1 1 [(J, y)] none 0 0 _ HIN.out (by decide) (by decide)).mono ?_
  rintro e w2 ⟨⟨b, rfl, hb⟩, hf2⟩
  have HB := hid_ hb
  clear hb v0 v1 v2 v3 v4 v5
  replace BL := hid_ (BL.out.fr hf2 id)
  replace BJ := hid_ (BJ.out.fr hf2 id)
  replace F := hid_ (F.out.then_none hf2)
  clear hf2 BX HIN
  cases b with
  | false =>
    go_wp2_with fail
    refine (awake12 _).mono ?_
    rintro e w99 ⟨rfl, hf99⟩
    have F99 := hid_ (F.out.then_none hf99)
    clear hf99
    go_wp2_with fail
    go_ret
    exact ⟨rfl, F99.out⟩
  | true =>
    have hfo := HB.out rfl
    obtain ⟨hn6, ht150, hR, hjs⟩ := hfo
    have HSm := hid_ (hjs (J, y) (by simp))
    have hss : ∃ sn : Nat, s = (sn : Int) := ⟨s.toNat, by omega⟩
    have hpp : ∃ pn : Nat, p = (pn : Int) := ⟨p.toNat, by omega⟩
    obtain ⟨sn, rfl⟩ := hss
    obtain ⟨pn, rfl⟩ := hpp
    obtain ⟨l1, l2, l3, l4, l5, l6, l7, l8, l9, l10, l11, l12⟩ := hR
    have HLR := hid_ (show Lm.Right ⟨sn, pn, tt, r, c, q⟩ from ⟨⟨l1, Int.le_trans l2 (by decide)⟩, ⟨l3, Int.le_trans l4 (by decide)⟩, ⟨l5, l6⟩, ⟨l7, l8⟩, ⟨l9, l10⟩, ⟨l11, l12⟩⟩)
    clear l1 l2 l3 l4 l5 l6 l7 l8 l9 l10 l11 l12 hjs HB hn6 ht150
    have v0 : w2.cell? ⟨W.heap.size, 0, none⟩ = some (.int .i64 (sn : Int)) := BL.out.cell' rfl
    have v1 : w2.cell? ⟨W.heap.size, 1, none⟩ = some (.int .i64 (pn : Int)) := BL.out.cell' rfl
    have v2 : w2.cell? ⟨W.heap.size, 2, none⟩ = some (.int .i64 tt) := BL.out.cell' rfl
    have v3 : w2.cell? ⟨W.heap.size, 3, none⟩ = some (.int .i64 r) := BL.out.cell' rfl
    have v4 : w2.cell? ⟨W.heap.size, 4, none⟩ = some (.int .i64 c) := BL.out.cell' rfl
    have v5 : w2.cell? ⟨W.heap.size, 5, none⟩ = some (.int .i64 q) := BL.out.cell' rfl
    go_wp2_with fail
    refine (memNew_ok ⟨sn, pn, tt, r, c, q⟩ _ HLR.out).mono ?_
    rintro e w3 ⟨m, a, G, vr, ve, Tb, H, C, M, rfl, hM, hf3, hm⟩
    have MM := hid_ hM
    have HM := hid_ (show ∀ b, mall m (newSt a G vr ve Tb H C M ⟨sn, pn, tt, r, c, q⟩) b → W.heap.size ≤ b from fun b hb => Nat.le_trans F.out.size (mall_ge hm b hb))
    replace BJ := hid_ (BJ.out.fr hf3 id)
    replace F := hid_ (F.out.then_none hf3)
    clear hM hf3 hm v0 v1 v2 v3 v4 v5 BL
    have z0 : w3.cell? ⟨W.heap.size + 1, 0, none⟩ = some (.int .i64 J.page) := BJ.out.cell' rfl
    have y0 := BJ.out.frozen 0
    go_upto_region 7 with fail
    obtain ⟨w4, hw4⟩ : ∃ z, z = w3.setCell ⟨W.heap.size + 1, 0, none⟩ (.int .i64 0) := ⟨_, rfl⟩
    have f4 : Fr (only (W.heap.size + 1)) w3 w4 := by rw [hw4]; exact Fr.only1 w3 ⟨W.heap.size + 1, 0, none⟩ _
    have BJ4 := hid_ (show Blk w4 (W.heap.size + 1) 46 (jobB (jobHd J 0 J.os J.og) y) by rw [hw4]; exact BJ.out.set_ 0 (.int .i64 0))
    replace MM := hid_ (MM.out.job BJ.out f4)
    replace F := hid_ (F.out.then_only f4 (.inr (Nat.le_succ _)))
    change Code.wp _ _ _ _ (w3.setCell ⟨W.heap.size + 1, 0, none⟩ (.int .i64 0))
    rw [← hw4]
    clear hw4 f4 z0 y0 BJ
    go_wp2_with fail
    refine (memHead_any m 0 _ _ _ MM.out (by decide) (by decide) 0).mono ?_
    rintro e w5 ⟨s0, g0, cc, v, rfl, hH, hev, hM5, hf5⟩
    obtain ⟨rfl, rfl, rfl⟩ := hH.used (i := 0) rfl rfl
    obtain rfl := hev.zero
    have BJ5 := hid_ (BJ4.out.fr hf5 (MM.out.mall_ty BJ4.out (by decide)))
    replace MM := hid_ hM5
    replace F := hid_ (F.out.trans (S'' := none_) hf5 (fun _ _ => id) (fun g hg e => by have := HM.out g e; omega))
    clear hH hev hM5 hf5 BJ4
    have z1 : w5.cell? ⟨W.heap.size + 1, 1, none⟩ = some (.int .i64 J.os) := BJ5.out.cell' rfl
    have z2 : w5.cell? ⟨W.heap.size + 1, 2, none⟩ = some (.int .i64 J.og) := BJ5.out.cell' rfl
    have y1 := BJ5.out.frozen 1
    have y2 := BJ5.out.frozen 2
    go_upto_region 8 with fail
    obtain ⟨w6, hw6⟩ : ∃ z, z = (w5.setCell ⟨W.heap.size + 1, 1, none⟩ (.int .i64 1)).setCell ⟨W.heap.size + 1, 2, none⟩ (.int .i64 1) := ⟨_, rfl⟩
    have f6 : Fr (only (W.heap.size + 1)) w5 w6 := by rw [hw6]; exact (Fr.only1 w5 ⟨W.heap.size + 1, 1, none⟩ _).trans (Fr.only1 _ ⟨W.heap.size + 1, 2, none⟩ _) (fun _ _ => id) (fun _ _ => id)
    have BJ := hid_ (show Blk w6 (W.heap.size + 1) 46 (jobB (jobHd J 0 1 1) y) by rw [hw6]; exact (BJ5.out.set_ 1 (.int .i64 1)).set_ 2 (.int .i64 1))
    replace MM := hid_ (MM.out.job BJ5.out f6)
    replace F := hid_ (F.out.then_only f6 (.inr (Nat.le_succ _)))
    change Code.wp _ _ _ _ ((w5.setCell ⟨W.heap.size + 1, 1, none⟩ (.int .i64 1)).setCell ⟨W.heap.size + 1, 2, none⟩ (.int .i64 1))
    rw [← hw6]
    clear hw6 f6 z1 z2 y1 y2 BJ5
    have HCA := hid_ F.out.size
    have BJLT := hid_ BJ.out.lt
    go_upto_region 9 with fail
    obtain ⟨w7, hw7⟩ : ∃ z, z = w6.alloc (.cells #[.int .i64 0] 3) := ⟨_, rfl⟩
    have fw7 : Fr none_ w6 w7 := by rw [hw7]; exact (Fr.refl none_ w6).alloc _
    have BC : Hid (Blk w7 w6.heap.size 3 (#[.int .i64 0])) := hid_ (by rw [hw7]; exact Blk.new w6 _ _)
    replace F := hid_ (F.out.then_none fw7)
    replace MM := hid_ (MM.out.keep fw7)
    replace BJ := hid_ (BJ.out.fr fw7 id)
    change Code.wp _ _ _ _ (w6.alloc (.cells #[.int .i64 0] 3))
    rw [← hw7]
    clear hw7 fw7
    have MA := hid_ (show Many W w7 m (0 + 1) ⟨sn, pn, tt, r, c, q⟩ (newSt a G vr ve Tb H C M ⟨sn, pn, tt, r, c, q⟩) w6.heap.size 0 [] from ⟨MM.out, by decide, by decide, HM.out, BC.out.cell' rfl, ⟨_, BC.out⟩, fun z hz => (by cases hz), fun j1 j2 z1 z2 h1 => (by simp at h1)⟩)
    have PF0 := hid_ (show PF (newSt a G vr ve Tb H C M ⟨sn, pn, tt, r, c, q⟩) [] from ⟨fun D hD => (by cases hD), ⟨1, 1, ⟨⟨_, rfl, rfl⟩, rfl⟩, fun _ D hD => (by cases hD)⟩, fun i j Di Dj h1 => (by simp at h1)⟩)
    clear MM BC
    obtain ⟨x0, hx0⟩ : ∃ x0, x0 = newSt a G vr ve Tb H C M ⟨sn, pn, tt, r, c, q⟩ := ⟨_, rfl⟩
    obtain ⟨lm, hlm⟩ : ∃ lm : Lm, lm = ⟨sn, pn, tt, r, c, q⟩ := ⟨_, rfl⟩
    rw [← hlm] at MA HM PF0 hx0
    rw [← hx0] at MA HM PF0
    have HX0 := hid_ (show ∃ h g, x0.ps[0]? = some (true, h, g) from ⟨1, 1, by rw [hx0]; rfl⟩)
    clear hx0
    clear hlm HLR
    obtain ⟨J2, hJ2⟩ : ∃ J2, J2 = jobHd J 0 1 1 := ⟨_, rfl⟩
    rw [← hJ2] at BJ
    have HJ2 := hid_ hJ2
    have HJr2 := hid_ (show JobRaw W J2 y by rw [hJ2]; exact HJ.out.hd_ 0 1 1)
    have HSm2 := hid_ (show JSm J2 y by rw [hJ2]; exact HSm.out.hd_ 0 1 1)
    clear hJ2
    go_wp2_with (refine wpList_load_mid rfl 46 (.tmp 3) rfl (W.heap.size + 1) 0 rfl (jobB J2 y).toList _ (show w7.rangeAt (W.heap.size + 1) 0 (jobB J2 y).toList from BJ.out.range (fun j v hv => by simpa using hv)) Try.underlying46 rfl jb_size ?_)
    refine (job_ok _ J2 _ _ _ w6.heap.size 0).mono ?_
    rintro e w8 ⟨jb, cb, rfl, hjb, hcb, hf8⟩
    obtain ⟨jb1, hjb1⟩ : ∃ z, z = jb := ⟨_, rfl⟩
    obtain ⟨cb1, hcb1⟩ : ∃ z, z = cb := ⟨_, rfl⟩
    rw [← hjb1] at hjb ⊢
    rw [← hcb1] at hcb ⊢
    clear hjb1 hcb1
    replace BJ := hid_ (BJ.out.fr hf8 id)
    replace MA := hid_ (MA.out.keep hf8)
    replace F := hid_ (F.out.then_none hf8)
    have BJLT := hid_ BJ.out.lt
    have JA := hid_ (show JobAt W w8 J2 (yq y jb1 cb1 w6.heap.size) from ⟨{ (JobRaw.rd HJr2.out HSm2.out) with }, F.out, hjb, hcb, HCA.out⟩)
    clear hjb hcb hf8
    go_wp2_with fail
    refine (begJ (q := yq y jb1 cb1 w6.heap.size) JA.out _ MA.out.cc MA.out.cb (HJr2.out.rows HSm2.out)).mono ?_
    rintro e w9 ⟨i1, a1, rfl, hI, hmv, hcc, hcb, hfn⟩
    have cabl := MA.out.cb.elim fun cs hb => hb.lt
    have hsz9 := hfn.size
    have notc : ∀ (b : Nat) (t : TypeId) (cs : Array Value), Blk w8 b t cs → t ≠ 3 → ¬ only w6.heap.size b := fun b t cs hb ht e => by
      obtain ⟨cs2, hb2⟩ := MA.out.cb
      have e2 : b = w6.heap.size := e
      subst e2
      exact ht (hb.uniq hb2).1
    have EI := hid_ (show InOk W w9 w6.heap.size ⟨i1, w8.heap.size, begD J2, a1, J2, yq y jb1 cb1 w6.heap.size⟩ from
      ⟨hI, (begD_ok J2).1, JA.out.fr hfn (fun b e => by rw [show b = w6.heap.size from e]; exact HCA.out) (fun b t cs e hb => ⟨fun e2 => notc b t cs hb (by rw [e2]; decide) e, fun e2 => notc b t cs hb (by rw [e2]; decide) e⟩), hmv, (begD_ok J2).2.1, HJr2.out.rows HSm2.out, fun e => (by have := hI.foot_le e; omega), F.out.size, hsz9, rfl, rfl⟩)
    have BJb := hid_ (BJ.out.fr hfn (notc _ _ _ BJ.out (by decide)))
    replace BJ := BJb
    clear BJb
    replace MA := hid_ (MA.out.add EI.out hfn hcc hcb (fun g hg => hI.foot_le hg) HCA.out)
    replace F := hid_ (F.out.trans (S'' := none_) hfn (fun _ _ => id) (fun g hg e => by have := HCA.out; have e2 : g = w6.heap.size := e; omega))
    clear hI hmv hcc hcb hfn cabl hsz9 EI notc
    have PF1 := hid_ (PF0.out.add (begD_first J2 (by rw [HJ2.out]; exact ⟨rfl, rfl, rfl⟩)) (begD_ok J2).1 (begD_ok J2).2.2.2.2.2.2.2.2)
    clear PF0
    have EN := hid_ (MA.out.env (z := ⟨i1, w8.heap.size, begD J2, a1, J2, yq y jb1 cb1 w6.heap.size⟩) (List.mem_singleton.2 rfl))
    go_wp2_with fail
    refine (runs_ok EN.out (by decide)).mono ?_
    rintro e w10 ⟨nr, z1, D1, x1, ra1, c1, rfl, hs7, hz24, hR⟩
    have BJn := hid_ (BJ.out.fr hR.f (EN.out.old BJ.out (by decide) (by have := BJ.out.lt; have := BJLT.out; omega) (by decide)))
    have FW2 := hid_ (Fr.none_mfc EN.out F.out hR.f)
    have HH := hid_ (Hd.steps hR.s (Hd.start (by rw [HJ2.out]; rfl) HX0.out))
    have EI := hid_ hR.e
    have S7 := hid_ hs7
    have HZ1 := hid_ hz24
    clear hs7 hz24 hR MA PF1 F EN BJ
    go_wp2_with fail
    refine (done_ok EI.out.I S7.out).mono ?_
    rintro e w11 ⟨rfl, hf11⟩
    have MM := hid_ (EI.out.M.keep hf11)
    have I1 := hid_ (EI.out.I.keep hf11)
    have BJ := hid_ (BJn.out.fr hf11 id)
    have F := hid_ (FW2.out.then_none hf11)
    clear hf11 BJn FW2
    obtain ⟨dd, hdd⟩ : ∃ dd, dd = D1.done := ⟨_, rfl⟩
    rw [← hdd]
    have HDD := hid_ hdd
    clear hdd
    cases dd with
    | false =>
      go_wp2_with fail
      refine (awake12 _).mono ?_
      rintro e w99 ⟨rfl, hf99⟩
      have F99 := hid_ (F.out.then_none hf99)
      clear hf99
      go_wp2_with fail
      go_ret
      exact ⟨rfl, F99.out⟩
    | true =>
      have hdn : D1.done = true := HDD.out.symm
      have HF := hid_ (HH.out.1 (.inr hdn))
      obtain ⟨hrl, hpl⟩ := HH.out.2.1.s7 hdn
      obtain ⟨sl, gl, hlast, hp0⟩ := HF.out.e hdn
      have hlp4 := HH.out.2.1.lp
      have hnw : D1.news = J2.news := EI.out.nw
      have hjex : ∃ j, D1.refs.length = j + 1 ∧ (j : Int) = D1.news := ⟨D1.refs.length - 1, by omega, by omega⟩
      obtain ⟨j, hjl, hjn⟩ := hjex
      have hrj : D1.refs[j]? = some (sl, gl) := by rw [List.getLast?_eq_getElem?, hjl] at hlast; exact hlast
      obtain ⟨hd, hhd⟩ : ∃ hd, hd = jhead J2 D1.pages := ⟨_, rfl⟩
      obtain ⟨ic, yc, e1, e2, e3, e4, e5⟩ := HF.out.r j sl gl hrj
      have e5b : yc.R = hd := by rw [e5, rec12, if_neg (by omega), hhd]
      have HC := hid_ (And.intro e1 (And.intro e2 (And.intro e3 (And.intro e4 e5b))))
      have HN := hid_ (And.intro hpl (And.intro hnw (And.intro hrl hlp4)))
      have HP0 := hid_ hp0
      have HRJ := hid_ (And.intro hjl hrj)
      have HHD := hid_ hhd
      have hW1 : ∀ b, mall m x1 b → W.heap.size ≤ b := EI.out.hW
      have HW1 := hid_ hW1
      have HK := hid_ (show 0 ≤ (0 : Int) + 1 + (z1 : Int) ∧ (0 : Int) + 1 + (z1 : Int) ≤ 100 by have := HZ1.out; omega)
      have HDN := hid_ hdn
      clear hdn hrl hpl hlast hp0 hnw hjl hjn hrj hhd e1 e2 e3 e4 e5 e5b hW1 HDD hlp4 EI
      as_aux_lemma =>
        go_wp2_with fail
        refine (memHead_any m _ _ _ _ MM.out (by have := HK.out; omega) (by have := HK.out; omega) 0).mono ?_
        rintro e w12 ⟨s0, g0, cc, v, rfl, hH, hev, hM12, hf12⟩
        obtain ⟨rfl, rfl, rfl⟩ := hH.used (i := 0) rfl HP0.out
        obtain rfl := hev.zero
        replace BJ := hid_ (BJ.out.fr hf12 (MM.out.mall_ty BJ.out (by decide)))
        replace I1 := hid_ (I1.out.mall MM.out hf12)
        replace F := hid_ (F.out.trans (S'' := none_) hf12 (fun _ _ => id) (fun g hg e => by have := HW1.out g e; omega))
        replace MM := hid_ hM12
        clear hH hev hM12 hf12
        go_upto_region 15 with fail
        obtain ⟨w13, hw13⟩ : ∃ z, z = w12.alloc (.cells #[.int .i64 s0, .int .i64 g0] 34) := ⟨_, rfl⟩
        have fw13 : Fr none_ w12 w13 := by rw [hw13]; exact (Fr.refl none_ w12).alloc _
        have BH : Hid (Blk w13 w12.heap.size 34 (#[.int .i64 s0, .int .i64 g0])) := hid_ (by rw [hw13]; exact Blk.new w12 _ _)
        replace F := hid_ (F.out.then_none fw13)
        replace MM := hid_ (MM.out.keep fw13)
        replace BJ := hid_ (BJ.out.fr fw13 id)
        replace I1 := hid_ (I1.out.keep fw13)
        change Code.wp _ _ _ _ (w12.alloc (.cells #[.int .i64 s0, .int .i64 g0] 34))
        rw [← hw13]
        clear hw13 fw13
        go_wp2_with fail
        refine (ihead_ok I1.out (HDN.out) HRJ.out.1 HRJ.out.2).mono ?_
        rintro e w14 ⟨rfl, hf14⟩
        replace F := hid_ (F.out.then_none hf14)
        replace MM := hid_ (MM.out.keep hf14)
        replace BJ := hid_ (BJ.out.fr hf14 id)
        replace I1 := hid_ (I1.out.keep hf14)
        replace BH := hid_ (BH.out.fr hf14 id)
        clear hf14
        go_wp2_with fail
        refine (memLoad_any m _ _ _ _ MM.out (by have := HK.out; omega) (by have := HK.out; omega) s0 g0).mono ?_
        rintro e w15 ⟨R, A, cA, B, dB, kk, v, rfl, hL, hev, hM15, hO, hf15⟩
        obtain ⟨rfl, rfl⟩ := hL.live HC.out.1 HC.out.2.1 HC.out.2.2.1 HC.out.2.2.2.1
        obtain rfl := hev.zero
        rw [HC.out.2.2.2.2] at hO ⊢
        replace BJ := hid_ (BJ.out.fr hf15 (MM.out.mall_ty BJ.out (by decide)))
        replace I1 := hid_ (I1.out.mall MM.out hf15)
        replace BH := hid_ (BH.out.fr hf15 (MM.out.mall_ty BH.out (by decide)))
        replace F := hid_ (F.out.trans (S'' := none_) hf15 (fun _ _ => id) (fun g hg e => by have := HW1.out g e; omega))
        replace MM := hid_ hM15
        have RO := hid_ hO
        clear hL hev hM15 hf15 hO
        go_upto_region 16 with (refine wpList_store_mid rfl 44 (.tmp 13) (.tmp 72) rfl w15.heap.size 0 (recA hd (.slice A hd.rows.length cA) (.slice B hd.ents.length dB)) rfl rfl (new_there w15 _ recZ) rec_size (by simp [Value.oneCell']) ?_; obtain ⟨w16, hw16⟩ : ∃ z, z = (w15.alloc (.cells recZ 44)).setCells w15.heap.size 0 (recA hd (.slice A hd.rows.length cA) (.slice B hd.ents.length dB)).toList := ⟨_, rfl⟩; change wpList _ _ _ _ _ ((w15.alloc (.cells recZ 44)).setCells w15.heap.size 0 (recA hd (.slice A hd.rows.length cA) (.slice B hd.ents.length dB)).toList); rw [← hw16]; have P16 : Hid (Blk w16 w15.heap.size 44 (recA hd (.slice A hd.rows.length cA) (.slice B hd.ents.length dB)) ∧ Fr none_ w15 w16) := hid_ (by rw [hw16]; exact new_copy w15 _ recZ (recA hd (.slice A hd.rows.length cA) (.slice B hd.ents.length dB)).toList rfl); clear hw16)
        have B13 := hid_ P16.out.1
        replace F := hid_ (F.out.then_none P16.out.2)
        replace MM := hid_ (MM.out.keep P16.out.2)
        replace BJ := hid_ (BJ.out.fr P16.out.2 id)
        replace I1 := hid_ (I1.out.keep P16.out.2)
        replace BH := hid_ (BH.out.fr P16.out.2 id)
        replace RO := hid_ (RO.out.keep P16.out.2)
        clear P16
        have HW16 := hid_ F.out.size
        have HNE := hid_ (Nat.ne_of_lt B13.out.lt)
        have HFI := hid_ (fun g (hg : foot i1 ra1 g) => Nat.ne_of_lt (I1.out.foot_lt hg))
        go_upto_region 17 with (first | (refine wpList_load_mid rfl 44 (.tmp 74) rfl (W.heap.size + 1) 5 rfl (recA J2.head (.slice y.Ah J2.head.rows.length y.ch) (.slice y.Eh J2.head.ents.length y.dh)).toList _ (show w16.rangeAt (W.heap.size + 1) 5 (recA J2.head (.slice y.Ah J2.head.rows.length y.ch) (.slice y.Eh J2.head.ents.length y.dh)).toList from BJ.out.range (fun j v hv => by match j, hv with | 0, hv => exact hv | 1, hv => exact hv | 2, hv => exact hv | 3, hv => exact hv | 4, hv => exact hv | 5, hv => exact hv | 6, hv => exact hv | 7, hv => exact hv | 8, hv => exact hv | 9, hv => exact hv | 10, hv => exact hv | 11, hv => exact hv | 12, hv => exact hv | 13, hv => exact hv | 14, hv => exact hv)) Try.underlying44 rfl rec_size ?_) | (refine wpList_store_mid rfl 44 (.tmp 15) (.tmp 75) rfl w16.heap.size 0 (recA J2.head (.slice y.Ah J2.head.rows.length y.ch) (.slice y.Eh J2.head.ents.length y.dh)) rfl rfl (new_there w16 _ recZ) rec_size (by simp [Value.oneCell']) ?_; obtain ⟨w17, hw17⟩ : ∃ z, z = (w16.alloc (.cells recZ 44)).setCells w16.heap.size 0 (recA J2.head (.slice y.Ah J2.head.rows.length y.ch) (.slice y.Eh J2.head.ents.length y.dh)).toList := ⟨_, rfl⟩; change wpList _ _ _ _ _ ((w16.alloc (.cells recZ 44)).setCells w16.heap.size 0 (recA J2.head (.slice y.Ah J2.head.rows.length y.ch) (.slice y.Eh J2.head.ents.length y.dh)).toList); rw [← hw17]; have P17 : Hid (Blk w17 w16.heap.size 44 (recA J2.head (.slice y.Ah J2.head.rows.length y.ch) (.slice y.Eh J2.head.ents.length y.dh)) ∧ Fr none_ w16 w17) := hid_ (by rw [hw17]; exact new_copy w16 _ recZ (recA J2.head (.slice y.Ah J2.head.rows.length y.ch) (.slice y.Eh J2.head.ents.length y.dh)).toList rfl); clear hw17))
        have B15 := hid_ P17.out.1
        replace F := hid_ (F.out.then_none P17.out.2)
        replace MM := hid_ (MM.out.keep P17.out.2)
        replace BJ := hid_ (BJ.out.fr P17.out.2 id)
        replace I1 := hid_ (I1.out.keep P17.out.2)
        replace BH := hid_ (BH.out.fr P17.out.2 id)
        replace RO := hid_ (RO.out.keep P17.out.2)
        replace B13 := hid_ (B13.out.fr P17.out.2 id)
        clear P17
        go_wp2_with fail
        refine (ipages_ok I1.out HDN.out HN.out.2.2.2).mono ?_
        rintro e w18 ⟨pA, pc, rfl, hpo, hf18⟩
        have PO := hid_ hpo
        replace F := hid_ (F.out.then_none hf18)
        replace MM := hid_ (MM.out.keep hf18)
        replace BJ := hid_ (BJ.out.fr hf18 id)
        replace I1 := hid_ (I1.out.keep hf18)
        replace BH := hid_ (BH.out.fr hf18 id)
        replace RO := hid_ (RO.out.keep hf18)
        replace B13 := hid_ (B13.out.fr hf18 id)
        replace B15 := hid_ (B15.out.fr hf18 id)
        clear hpo hf18
        go_upto_region 18 with fail
        have jf : w18.cell? ⟨W.heap.size + 1, 20, none⟩ = some (.int .i64 J2.fresh) := BJ.out.cell' rfl
        have hp4 := HN.out.2.2.2
        obtain ⟨cnd, hcnd⟩ : ∃ cnd, cnd = decide (1 ≤ J2.fresh ∧ J2.fresh ≤ (D1.pages.length : Int)) := ⟨_, rfl⟩
        have HCN := hid_ hcnd
        clear hcnd
        go_cut [87] (fun u wq => u = .bool cnd ∧ wq = w18)
        case first =>
          by_cases h1 : 1 ≤ J2.fresh
          · have dd1 : decide (1 ≤ J2.fresh) = true := by simpa using h1
            by_cases h2 : J2.fresh ≤ (D1.pages.length : Int)
            · have dd2 : decide (J2.fresh ≤ (D1.pages.length : Int)) = true := by simpa using h2
              have hc : cnd = true := by rw [HCN.out]; simp [h1, h2]
              clear h1 h2
              go_wp2_with fail
              go_meet
              exact ⟨by rw [hc], rfl⟩
            · have dd2 : decide (J2.fresh ≤ (D1.pages.length : Int)) = false := by simpa using h2
              have hc : cnd = false := by rw [HCN.out]; simp [h1, h2]
              clear h1 h2
              go_wp2_with fail
              go_meet
              exact ⟨by rw [hc], rfl⟩
          · have dd1 : decide (1 ≤ J2.fresh) = false := by simpa using h1
            have hc : cnd = false := by rw [HCN.out]; simp [h1]
            clear h1
            go_wp2_with fail
            go_meet
            exact ⟨by rw [hc], rfl⟩
        case rest =>
          obtain ⟨rfl, hwc⟩ := hcut
          subst hwc
          obtain ⟨w18, rfl⟩ : ∃ z : World, z = wc := ⟨_, rfl⟩
          go_upto_if 87 with fail
          go_cut [15] (fun u wq => u = .pointer (some ⟨w16.heap.size, 0, none⟩) ∧ Blk wq w16.heap.size 44 (recA hd (.slice y.Ah hd.rows.length y.ch) (.slice y.Eh hd.ents.length y.dh)) ∧ Fr (only w16.heap.size) w18 wq)
          case first =>
            cases cnd with
            | true =>
              have hc : 1 ≤ J2.fresh ∧ J2.fresh ≤ (D1.pages.length : Int) := by have := HCN.out; simpa using this.symm
              have hqex : ∃ qn : Nat, J2.fresh = (qn : Int) + 1 ∧ qn < D1.pages.length := ⟨(J2.fresh - 1).toNat, by omega, by omega⟩
              obtain ⟨qn, hqn, hql⟩ := hqex
              obtain ⟨n, hn⟩ : ∃ n, D1.pages[qn]? = some n := ⟨_, List.getElem?_eq_getElem hql⟩
              have EJ := hid_ (show hd = pgH J2 n by rw [HHD.out]; unfold jhead; rw [if_pos hc, hqn]; simp [hn, pgH])
              obtain ⟨g, rfl, hgc, -⟩ := own_i1 PO.out hql hn
              rw [hqn] at jf
              have hw1 : IntKind.i64.wrap (qn : Int) = (qn : Int) := IntWalk.i64_in _ (by omega)
              have hi0 : (0 : Int) ≤ (qn : Int) := Int.natCast_nonneg _
              have hi1 : (qn : Int) < (D1.pages.length : Int) := by omega
              have y9 := B15.out.frozen 9
              have z9 : w18.cell? ⟨w16.heap.size, 9, none⟩ = some (.int .i64 J2.head.page) := B15.out.cell' rfl
              clear hc hqn hn hql
              go_wp2_with fail
              go_meet
              exact ⟨rfl, by rw [EJ.out]; exact B15.out.set_ 9 (.int .i64 n), Fr.only1 w18 ⟨w16.heap.size, 9, none⟩ _⟩
            | false =>
              have hc : ¬ (1 ≤ J2.fresh ∧ J2.fresh ≤ (D1.pages.length : Int)) := by have := HCN.out; simpa using this.symm
              have EJ := hid_ (show hd = J2.head by rw [HHD.out]; unfold jhead; rw [if_neg hc])
              clear hc
              go_wp2_with fail
              go_meet
              exact ⟨rfl, by rw [EJ.out]; exact B15.out, Fr.refl _ _⟩
          case rest =>
            obtain ⟨rfl, hb15, hfc⟩ := hcut
            as_aux_lemma =>
              have hdl := jhead_rows J2 D1.pages
              rw [← HHD.out] at hdl
              have RDh := hid_ (show RecReads wc hd y.Ah y.Eh from by
                have h1 := (HJr2.out.hd.keep F.out)
                have h2 : RecReads w18 hd y.Ah y.Eh := ⟨by rw [hdl.1]; exact h1.r, by rw [hdl.2]; exact h1.e⟩
                have fW : Fr none_ W wc := F.out.then_only hfc (.inr (by have h3 := HW16.out; exact h3))
                exact ⟨by rw [hdl.1]; exact (HJr2.out.hd.keep fW).r, by rw [hdl.2]; exact (HJr2.out.hd.keep fW).e⟩)
              have HDZ := hid_ (show hd.rows.length ≤ 1000 ∧ hd.ents.length ≤ 1000 by rw [hdl.1, hdl.2]; have h1 := HSm2.out.h1; have h2 := HSm2.out.h2; omega)
              have B15c := hid_ hb15
              have B13c := hid_ (B13.out.fr hfc (only_ne HNE.out))
              have BHc := hid_ (BH.out.fr hfc (only_ne (fun e => (Blk.ne_ BH.out B15.out (by decide)) e)))
              have ROc := hid_ (RO.out.only hfc B15.out (by decide) (by decide))
              have I1c := hid_ (I1.out.fr hfc (fun g hg => only_ne (fun e => HFI.out g hg e)) (fun g t cs hb ht e => by
                have e' : g = w16.heap.size := e
                subst e'
                obtain ⟨rfl, _⟩ := hb.uniq B15.out
                rcases ht with h | h | h <;> revert h <;> decide))
              have AF := hid_ (show Aft W wc m (0 + 1 + (z1 : Int) + 1 + 1) lm x1 (W.heap.size + 1) J2 y w17.heap.size pA pc D1.pages from
                ⟨F.out.then_only hfc (.inr HW16.out), MM.out.ty hfc (fun g e => by rw [show g = w16.heap.size from e]; exact ⟨_, _, B15.out, by decide⟩), by have := HK.out; omega, HW1.out, BJ.out.fr hfc (only_ne (Blk.ne_ BJ.out B15.out (by decide))), own_fr PO.out hfc (fun g hg e => own_blk_ne PO.out B15.out (by decide) (by rw [hg, show g = w16.heap.size from e]))⟩)
              clear hb15 hfc hdl F MM BJ PO B13 BH RO I1 B15 jf
              go_upto_region 20 with fail
              have bnw : wc.cell? ⟨W.heap.size + 1, 3, none⟩ = some (.int .i64 (D1.pages.length : Int)) := by have := AF.out.bj.cell' (i := 3) (v := .int .i64 J2.news) rfl; rw [this, ← HN.out.2.1, HN.out.1]
              go_cut [115] (fun u wq => u = .bool false ∧ Fr none_ wc wq)
              case first =>
                refine wp_region_q12 (fun w' : World => Fr none_ wc w') (by as_aux_lemma => kernel_rfl) (by as_aux_lemma => kernel_rfl) (Fr.refl _ wc).drew ?_
                refine q_mid12 (some 95) [.int .i64 s0, .int .i64 g0] 34 (.tmp 11) w12.heap.size 0 _ rfl (by as_aux_lemma => kernel_rfl) rfl (by as_aux_lemma => kernel_rfl) (fun w' hC => (BHc.out.fr hC id).range (fun j v hv => by simpa using hv)) Try.underlying34 rfl (by as_aux_lemma => kernel_rfl) ?_
                refine q_val12 (some 96) (.pointer (some ⟨i1, 0, none⟩)) rfl (by as_aux_lemma => kernel_rfl) (fun w' hC => by as_aux_lemma => kernel_rfl) ?_
                refine q_call12 (some 97) (.agg #[.int .i64 s0, .int .i64 g0]) 17 #[.pointer (some ⟨i1, 0, none⟩)] rfl (by as_aux_lemma => kernel_rfl) (fun w' hC => by as_aux_lemma => kernel_rfl) (fun w' hC => (ihead_ok (I1c.out.keep hC) HDN.out HRJ.out.1 HRJ.out.2).mono (fun e w2 h => ⟨h.1, hC.then_none h.2⟩)) ?_
                refine q_op12 (some 98) (.bool false) (do eqGuard .neq 34 (.tmp 95) (.tmp 97) (.agg #[.int .i64 s0, .int .i64 g0]) (.agg #[.int .i64 s0, .int .i64 g0]); binOp .neq 34 (.agg #[.int .i64 s0, .int .i64 g0]) (.agg #[.int .i64 s0, .int .i64 g0])) rfl (by as_aux_lemma => kernel_rfl) (by as_aux_lemma => kernel_rfl) (fun w' hC => neqr12 _ _ s0 g0 w' (by as_aux_lemma => kernel_rfl)) ?_
                refine q_val12 (some 99) (.bool false) rfl (by as_aux_lemma => kernel_rfl) (fun w' hC => by as_aux_lemma => kernel_rfl) ?_
                refine q_val12 (some 100) .nilIface rfl (by as_aux_lemma => kernel_rfl) (fun w' hC => by as_aux_lemma => kernel_rfl) ?_
                refine q_val12 (some 101) (.bool false) rfl (by as_aux_lemma => kernel_rfl) (fun w' hC => by as_aux_lemma => kernel_rfl) ?_
                refine q_val12 (some 102) (.bool false) rfl (by as_aux_lemma => kernel_rfl) (fun w' hC => by as_aux_lemma => kernel_rfl) ?_
                refine q_val12 (some 103) (.bool false) rfl (by as_aux_lemma => kernel_rfl) (fun w' hC => by as_aux_lemma => kernel_rfl) ?_
                refine q_blk12 (some 104) (recA hd (.slice A hd.rows.length cA) (.slice B hd.ents.length dB)) 44 (.tmp 13) w15.heap.size 15 _ rfl (by as_aux_lemma => kernel_rfl) rfl (by as_aux_lemma => kernel_rfl) (fun w' hC => B13c.out.fr hC id) Try.underlying44 rfl rec_size rfl ?_
                refine q_blk12 (some 105) (recA hd (.slice y.Ah hd.rows.length y.ch) (.slice y.Eh hd.ents.length y.dh)) 44 (.tmp 15) w16.heap.size 15 _ rfl (by as_aux_lemma => kernel_rfl) rfl (by as_aux_lemma => kernel_rfl) (fun w' hC => B15c.out.fr hC id) Try.underlying44 rfl rec_size rfl ?_
                refine q_call12 (some 106) (.bool true) 19 #[.agg (recA hd (.slice A hd.rows.length cA) (.slice B hd.ents.length dB)), .agg (recA hd (.slice y.Ah hd.rows.length y.ch) (.slice y.Eh hd.ents.length y.dh))] rfl (by as_aux_lemma => kernel_rfl) (fun w' hC => by as_aux_lemma => kernel_rfl) (fun w' hC => (same4_ok hd A cA B dB y.Ah y.ch y.Eh y.dh w' (ROc.out.keep hC).reads (RDh.out.keep hC) HDZ.out.1 HDZ.out.2).mono (fun e w2 h => ⟨h.1, hC.then_none h.2⟩)) ?_
                refine q_val12 (some 107) (.bool false) rfl (by as_aux_lemma => kernel_rfl) (fun w' hC => by as_aux_lemma => kernel_rfl) ?_
                refine q_val12 (some 108) (.bool false) rfl (by as_aux_lemma => kernel_rfl) (fun w' hC => by as_aux_lemma => kernel_rfl) ?_
                refine q_val12 (some 109) (.bool false) rfl (by as_aux_lemma => kernel_rfl) (fun w' hC => by as_aux_lemma => kernel_rfl) ?_
                refine q_val12 (some 110) (.slice pA D1.pages.length pc) rfl (by as_aux_lemma => kernel_rfl) (fun w' hC => by as_aux_lemma => kernel_rfl) ?_
                refine q_val12 (some 111) (.int .i64 (D1.pages.length : Int)) rfl (by as_aux_lemma => kernel_rfl) (fun w' hC => by as_aux_lemma => kernel_rfl) ?_
                refine q_val12 (some 112) (.pointer (some ⟨W.heap.size + 1, 3, none⟩)) rfl (by as_aux_lemma => kernel_rfl) (fun w' hC => by as_aux_lemma => kernel_rfl) ?_
                refine q_cell12 (some 113) (.int .i64 (D1.pages.length : Int)) 3 (.tmp 112) ⟨W.heap.size + 1, 3, none⟩ _ rfl (by as_aux_lemma => kernel_rfl) rfl (by as_aux_lemma => kernel_rfl) (fun w' hC => cellFr bnw hC) Try.underlying3 rfl ?_
                refine q_bool12 (some 114) (!((D1.pages.length : Int) == (D1.pages.length : Int))) false (by simp) rfl (by as_aux_lemma => kernel_rfl) (fun w' hC => by as_aux_lemma => kernel_rfl) ?_
                refine q_val12 (some 115) (.bool false) rfl (by as_aux_lemma => kernel_rfl) (fun w' hC => by as_aux_lemma => kernel_rfl) ?_
                refine q_done12 ?_
                intro w' hC
                simp only [Exit.then]
                go_frame
                rename_i hK
                refine hK _ _ ?_
                go_meet
                exact ⟨rfl, hC⟩
              case rest =>
                obtain ⟨rfl, hf19⟩ := hcut
                have AF2 := hid_ (AF.out.keep hf19)
                clear hf19 bnw AF ROc RDh B13c B15c BHc I1c
                go_wp2_with fail
                go_loopw [118] (fun u wr => ∃ (k : Nat), k ≤ D1.pages.length ∧ u = .int .i64 k ∧ Aft W wr m (0 + 1 + (z1 : Int) + 1 + 1 + 2 * (k : Int)) lm x1 (W.heap.size + 1) J2 y w17.heap.size pA pc D1.pages) (fun u _ => D1.pages.length - (intOf u).toNat)
                case atStart => exact ⟨0, Nat.zero_le _, rfl, by simpa using AF2.out⟩
                case round =>
                  obtain ⟨k, hk, rfl, hA⟩ := hrel
                  have AK := hid_ hA
                  clear hA
                  have hk0 : (0 : Int) ≤ (k : Int) := Int.natCast_nonneg _
                  by_cases hkn : k < D1.pages.length
                  · obtain ⟨n, hn⟩ : ∃ n, D1.pages[k]? = some n := ⟨_, List.getElem?_eq_getElem hkn⟩
                    obtain ⟨g, rfl, hgc, -⟩ := own_i1 AK.out.pg hkn hn
                    have hk1 : (k : Int) < (D1.pages.length : Int) := by omega
                    have HPN := hid_ (And.intro hkn hn)
                    have HK4 := hid_ (show 0 ≤ (0 : Int) + 1 + (z1 : Int) + 1 + 1 + 2 * (k : Int) ∧ (0 : Int) + 1 + (z1 : Int) + 1 + 1 + 2 * (k : Int) ≤ 200 by have := HK.out; have := HN.out.2.2.2; omega)
                    clear hn hkn
                    go_wp2_with fail
                    refine (memHead_any m _ _ _ _ AK.out.M HK4.out.1 (by have := HK4.out.2; omega) n).mono ?_
                    rintro e w21 ⟨s1, g1, c21, v21, rfl, hH, hev, hM21, hf21⟩
                    obtain ⟨r1, hr⟩ : ∃ z, D1.refs[k]? = some z := ⟨_, List.getElem?_eq_getElem (by have := HN.out; have := HPN.out.1; omega)⟩
                    obtain ⟨sl, gl⟩ := r1
                    obtain ⟨i2, hi2, hps⟩ := HF.out.l k n sl gl (by unfold linkN; rw [S7.out]; have := HN.out; have := HPN.out.1; simp; omega) HPN.out.2 hr
                    obtain ⟨rfl, rfl, rfl⟩ := hH.used (i := i2) hi2 hps
                    obtain rfl := hev.zero
                    obtain ⟨ic2, yc2, e1, e2, e3, e4, e5⟩ := HF.out.r k s1 g1 hr
                    rw [rec12, if_pos (by have := HN.out; have := HPN.out.1; omega)] at e5
                    have HC2 := hid_ (And.intro e1 (And.intro e2 (And.intro e3 (And.intro e4 e5))))
                    have AK2 := hid_ (AK.out.acc hM21 hf21)
                    clear hH hev hM21 hf21 hr hi2 hps e1 e2 e3 e4 e5 AK hgc
                    go_upto_region 26 with fail
                    obtain ⟨w22, hw22⟩ : ∃ z, z = w21.alloc (.cells #[.int .i64 s1, .int .i64 g1] 34) := ⟨_, rfl⟩
                    change Code.wp _ _ _ _ (w21.alloc (.cells #[.int .i64 s1, .int .i64 g1] 34))
                    rw [← hw22]
                    have B22 := hid_ (show Blk w22 w21.heap.size 34 #[.int .i64 s1, .int .i64 g1] by rw [hw22]; exact Blk.new _ _ _)
                    have AK3 := hid_ (AK2.out.keep (show Fr none_ w21 w22 by rw [hw22]; exact (Fr.refl _ _).alloc _))
                    clear hw22 AK2
                    have b0 : w22.cell? ⟨w21.heap.size, 0, none⟩ = some (.int .i64 s1) := B22.out.cell' rfl
                    have b1 : w22.cell? ⟨w21.heap.size, 1, none⟩ = some (.int .i64 g1) := B22.out.cell' rfl
                    go_wp2_with fail
                    refine (memLoad_any m _ _ _ _ AK3.out.M (by have := HK4.out; omega) (by have := HK4.out; omega) s1 g1).mono ?_
                    rintro e w23 ⟨R3, A3, c3, B3, d3, kk3, v3, rfl, hL, hev, hM23, hO, hf23⟩
                    obtain ⟨rfl, rfl⟩ := hL.live HC2.out.1 HC2.out.2.1 HC2.out.2.2.1 HC2.out.2.2.2.1
                    obtain rfl := hev.zero
                    rw [HC2.out.2.2.2.2] at hO ⊢
                    have AK4 := hid_ (AK3.out.acc hM23 hf23)
                    have RO3 := hid_ hO
                    clear hL hev hM23 hf23 hO b0 b1 B22 AK3
                    go_upto_region 27 with (refine wpList_store_mid rfl 44 (.tmp 21) (.tmp 133) rfl w23.heap.size 0 (recA (jbase J2 k) (.slice A3 (jbase J2 k).rows.length c3) (.slice B3 (jbase J2 k).ents.length d3)) rfl rfl (new_there w23 _ recZ) rec_size (by simp [Value.oneCell']) ?_; obtain ⟨w24, hw24⟩ : ∃ z, z = (w23.alloc (.cells recZ 44)).setCells w23.heap.size 0 (recA (jbase J2 k) (.slice A3 (jbase J2 k).rows.length c3) (.slice B3 (jbase J2 k).ents.length d3)).toList := ⟨_, rfl⟩; change wpList _ _ _ _ _ ((w23.alloc (.cells recZ 44)).setCells w23.heap.size 0 (recA (jbase J2 k) (.slice A3 (jbase J2 k).rows.length c3) (.slice B3 (jbase J2 k).ents.length d3)).toList); rw [← hw24]; have P24 : Hid (Blk w24 w23.heap.size 44 (recA (jbase J2 k) (.slice A3 (jbase J2 k).rows.length c3) (.slice B3 (jbase J2 k).ents.length d3)) ∧ Fr none_ w23 w24) := hid_ (by rw [hw24]; exact new_copy w23 _ recZ (recA (jbase J2 k) (.slice A3 (jbase J2 k).rows.length c3) (.slice B3 (jbase J2 k).ents.length d3)).toList rfl); clear hw24)
                    have B24 := hid_ P24.out.1
                    have AK5 := hid_ (AK4.out.keep P24.out.2)
                    have RO4 := hid_ (RO3.out.keep P24.out.2)
                    clear P24 AK4 RO3
                    obtain ⟨bb, hbb⟩ : ∃ z, z = decide ((k : Int) < (y.Cs.length : Int)) := ⟨_, rfl⟩
                    have hbd : decide ((k : Int) < (y.Cs.length : Int)) = bb := hbb.symm
                    go_upto_region 28 with fail
                    obtain ⟨yA, hyA⟩ : ∃ z, z = y.A := ⟨_, rfl⟩
                    have jb4 : w24.cell? ⟨W.heap.size + 1, 4, none⟩ = some (.slice yA y.Cs.length y.c) := by rw [hyA]; exact AK5.out.bj.cell' rfl
                    have HYA := hid_ hyA
                    clear hyA
                    have jlt : W.heap.size + 1 < w24.heap.size := AK5.out.bj.lt
                    have HBB := hid_ hbb
                    clear hbb
                    go_upto_if 139 with fail
                    go_cut [23] (fun u wq => u = .pointer (some ⟨w24.heap.size, 0, none⟩) ∧ ∃ C : Cr, noNext C.R = jbase J2 k ∧ RecReads W C.R C.A C.B ∧ Blk wq w24.heap.size 44 (crA C) ∧ Fr none_ w24 wq)
                    case first =>
                      cases bb with
                      | true =>
                        have hkc : k < y.Cs.length := by have := HBB.out; simp at this; exact this
                        obtain ⟨C, hC⟩ : ∃ C, y.Cs[k]? = some C := ⟨_, List.getElem?_eq_getElem hkc⟩
                        obtain ⟨b, off, hA, hb, hcs⟩ := HJr2.out.r (by omega)
                        have HRc := hid_ (show (w24.alloc (.cells recZ 44)).rangeAt b (off + k * 15) (crA C).toList from fun j v hv => cellFr (cellFr (hcs k C hC j v hv) AK5.out.f) ((Fr.refl none_ w24).alloc _))
                        have hex : noNext C.R = jbase J2 k ∧ RecReads W C.R C.A C.B := ⟨by unfold jbase; rw [← HJr2.out.cs, List.getElem?_map, hC]; rfl, HJr2.out.o C (List.mem_of_getElem? hC)⟩
                        have HEX := hid_ hex
                        have hkc1 : (k : Int) < (y.Cs.length : Int) := by omega
                        obtain rfl : yA = some ⟨b, off, none⟩ := HYA.out.trans hA
                        clear hex hcs hC hb hkc hA
                        go_wp2_with (first | (refine wpList_load_mid rfl 44 (.tmp 143) rfl b (off + k * 15) rfl (crA C).toList _ HRc.out Try.underlying44 rfl rec_size ?_) | (refine wpList_store_mid rfl 44 (.tmp 23) (.tmp 144) rfl w24.heap.size 0 (crA C) rfl rfl (new_there w24 _ recZ) rec_size (by simp [Value.oneCell']) ?_))
                        go_meet
                        exact ⟨rfl, C, HEX.out.1, HEX.out.2, (new_copy w24 _ recZ (crA C).toList rfl).1, (new_copy w24 _ recZ (crA C).toList rfl).2⟩
                      | false =>
                        have hkc : y.Cs.length ≤ k := by have := HBB.out; simp at this; exact this
                        have hex : noNext Rc.zero = jbase J2 k := by unfold jbase; rw [← HJr2.out.cs, List.getElem?_map, List.getElem?_eq_none hkc]; rfl
                        have hkc1 : ¬ (k : Int) < (y.Cs.length : Int) := by omega
                        clear hkc
                        go_wp2_with fail
                        go_meet
                        exact ⟨rfl, ⟨Rc.zero, none, 0, none, 0⟩, hex, ⟨Reads.nil_, Reads.nil_⟩, Blk.new _ _ _, (Fr.refl none_ w24).alloc _⟩
                    case rest =>
                      obtain ⟨rfl, C, hC1, hC2, hC3, hC4⟩ := hcut
                      have HCJ := hid_ (And.intro hC1 hC2)
                      have BC := hid_ hC3
                      have B24c := hid_ (B24.out.fr hC4 id)
                      have AK6 := hid_ (AK5.out.keep hC4)
                      have RO5 := hid_ (RO4.out.keep hC4)
                      have HN24 := hid_ (show w23.heap.size = w24.heap.size → False from fun e => by have h1 := B24.out.lt; omega)
                      have HF24 := hid_ AK5.out.f.size
                      clear hC1 hC2 hC3 hC4 AK5 RO4 B24 jb4 jlt
                      go_upto_region 30 with fail
                      have y13 := BC.out.frozen 13
                      have y14 := BC.out.frozen 14
                      have z13 : wc.cell? ⟨w24.heap.size, 13, none⟩ = some (.int .i64 C.R.nslot) := BC.out.cell' rfl
                      have z14 : wc.cell? ⟨w24.heap.size, 14, none⟩ = some (.int .i64 C.R.ngen) := BC.out.cell' rfl
                      go_upto_region 31 with fail
                      obtain ⟨w25, hw25⟩ : ∃ z, z = (wc.setCell ⟨w24.heap.size, 13, none⟩ (.int .i64 0)).setCell ⟨w24.heap.size, 14, none⟩ (.int .i64 0) := ⟨_, rfl⟩
                      change Code.wp _ _ _ _ ((wc.setCell ⟨w24.heap.size, 13, none⟩ (.int .i64 0)).setCell ⟨w24.heap.size, 14, none⟩ (.int .i64 0))
                      rw [← hw25]
                      have hf25 : Fr (only w24.heap.size) wc w25 := by rw [hw25]; exact (Fr.only1 wc ⟨w24.heap.size, 13, none⟩ (.int .i64 0)).trans (Fr.only1 _ ⟨w24.heap.size, 14, none⟩ (.int .i64 0)) (fun _ _ => id) (fun _ _ => id)
                      have B25 := hid_ (show Blk w25 w24.heap.size 44 (recA (jbase J2 k) (.slice C.A (jbase J2 k).rows.length C.c) (.slice C.B (jbase J2 k).ents.length C.d)) by rw [hw25, ← HCJ.out.1]; exact (BC.out.set_ 13 (.int .i64 0)).set_ 14 (.int .i64 0))
                      have B24d := hid_ (B24c.out.fr hf25 (only_ne (by have := B24c.out.lt; intro e; exact HN24.out e)))
                      have hWs : W.heap.size ≤ w24.heap.size := by have := HF24.out; omega
                      have F25 := hid_ (AK6.out.f.then_only hf25 (.inr hWs))
                      have RO6 := hid_ (RO5.out.only hf25 BC.out (by decide) (by decide))
                      have RC6 := hid_ (show RecReads w25 (jbase J2 k) C.A C.B by rw [← HCJ.out.1]; exact ⟨HCJ.out.2.r.none_fr F25.out, HCJ.out.2.e.none_fr F25.out⟩)
                      have AK7 := hid_ (AK6.out.off hf25 hWs BC.out)
                      clear hw25 hf25 y13 y14 z13 z14 BC B24c AK6 RO5 hWs
                      go_wp2_with (first | (refine wpList_load_midG12 (by kernel_rfl) 44 (.tmp 21) rfl w23.heap.size 0 rfl (recA (jbase J2 k) (.slice A3 (jbase J2 k).rows.length c3) (.slice B3 (jbase J2 k).ents.length d3)).toList _ (B24d.out.range (fun j v hv => by simpa using hv)) Try.underlying44 rfl rec_size ?_) | (refine wpList_load_midG12 (by kernel_rfl) 44 (.tmp 23) rfl w24.heap.size 0 rfl (recA (jbase J2 k) (.slice C.A (jbase J2 k).rows.length C.c) (.slice C.B (jbase J2 k).ents.length C.d)).toList _ (B25.out.range (fun j v hv => by simpa using hv)) Try.underlying44 rfl rec_size ?_))
                      refine (same4_ok (jbase J2 k) A3 c3 B3 d3 C.A C.c C.B C.d w25 RO6.out.reads RC6.out (jbase_ok (JobRaw.rows HJr2.out HSm2.out).2 k).1 (jbase_ok (JobRaw.rows HJr2.out HSm2.out).2 k).2).mono ?_
                      rintro e w26 ⟨rfl, hf26⟩
                      have AK8 := hid_ (AK7.out.keep hf26)
                      clear hf26 AK7 RC6 RO6 F25 B24d B25
                      go_wp2_with fail
                      go_roundw
                      case rel =>
                        refine ⟨k + 1, by have := HPN.out.1; omega, by go_num, ?_⟩
                        rw [show (0 + 1 + (z1 : Int) + 1 + 1 + 2 * ((k + 1 : Nat) : Int)) = 0 + 1 + (z1 : Int) + 1 + 1 + 2 * (k : Int) + 1 + 1 by push_cast; omega]
                        exact AK8.out
                      case measure => have := HPN.out.1; simp [intOf]; omega
                  · have hk1 : ¬ (k : Int) < (D1.pages.length : Int) := by omega
                    have HKE := hid_ (show k = D1.pages.length by omega)
                    clear hkn
                    go_wp2_with fail
                    have FE := hid_ AK.out.f
                    refine (awake12 _).mono ?_
                    rintro e w99 ⟨rfl, hf99⟩
                    have F99 := hid_ (FE.out.then_none hf99)
                    clear hf99
                    go_wp2_with fail
                    go_ret
                    exact ⟨rfl, F99.out⟩
theorem head12_walk_i {H : Type} {enc : TypeId × Value → H} (s p tt r c q : Int) (x0 x1 x2 x3 : Int) (x4 : Value) (x5 : Int) (x6 x7 : ByteArray) (x8 : Bool) (x9 : Int) (x10 x11 : Value) (x12 x13 : ByteArray) (x14 x15 x16 : Int) (x17 : ByteArray) (x18 x19 x20 : Int) (W : World)
    (w4 : Conf enc Try.prog W (.slice 38) x4) (w10 : Conf enc Try.prog W (.slice 39) x10) (w11 : Conf enc Try.prog W (.slice 40) x11) :
    Calls Try.prog 4 #[.agg #[.int .i64 s, .int .i64 p, .int .i64 tt, .int .i64 r, .int .i64 c, .int .i64 q], .agg #[.int .i64 x0, .int .i64 x1, .int .i64 x2, .int .i64 x3, x4, .int .i64 x5, .string x6, .string x7, .bool x8, .int .i64 x9, x10, x11, .string x12, .string x13, .int .i64 x14, .int .i64 x15, .int .i64 x16, .string x17, .int .i64 x18, .int .i64 x19, .int .i64 x20]] W fun e w' => e = .returned (.bool true) ∧ Fr none_ W w' := by
  obtain ⟨J, y, e, hJ⟩ := job_raw (x0 := x0) (x1 := x1) (x2 := x2) (x3 := x3) (x5 := x5) (x6 := x6) (x7 := x7) (x8 := x8) (x9 := x9) (x12 := x12) (x13 := x13) (x14 := x14) (x15 := x15) (x16 := x16) (x17 := x17) (x18 := x18) (x19 := x19) (x20 := x20) w4 w10 w11
  rw [e]
  exact head12_walk s p tt r c q J y W hJ
end Go.Proofs.Ythcpccddcgbanaa

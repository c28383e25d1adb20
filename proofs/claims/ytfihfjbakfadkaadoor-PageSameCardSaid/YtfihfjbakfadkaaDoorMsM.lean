/- Texts of one proof, merged: LdrC10, LdrD10, LdL10, Aw10, Psh10, Two10, Same4, Sm10, DocP8, Law8, Same10, As, Code, TwP10, PuA10, Push10, Few10, U810. -/
import Derived.WalkSpells
import Derived.WalkLawsBesides
import Derived.Deep.QuietTactic
import Derived.BigQuiet
import Derived.LaidEql
import Derived.Stop.Asserts
import Derived.RowKitTokens
import Derived.Deep.DeepCutAuto
import Derived.Test.YtfihfjbakfadkaaDoorMsA
import Derived.Test.YtfihfjbakfadkaaDoorMsC
import Derived.Test.YtfihfjbakfadkaaDoorMsE
import Derived.Test.YtfihfjbakfadkaaDoorMsH
import Derived.Test.YtfihfjbakfadkaaDoorMsK
import Derived.Test.YtfihfjbakfadkaaDoorMsL
namespace Go.Proofs.YtfihfjbakfadkaaDoor
open Go.RowKit Go.BigFrame
set_option maxRecDepth 100000
set_option linter.unusedVariables false

abbrev toCh (C : Cr) : Ch := ⟨C.R, C.A, C.c, C.B, C.d⟩
/-- A record's texts and entries are not too long. -/
structure RcOk (R : Rc) : Prop where
  low : SzOk R.low
  high : SzOk R.high
  key : SzOk R.key
  hkey : SzOk R.hkey
  ents : EtsOk R.ents
theorem flat_toCh (L : List Cr) : recFlat (L.map toCh) = crFlat L := by
  induction L with
  | nil => rfl
  | cons C t ih => simp only [recFlat, crFlat, List.map_cons, List.flatten_cons] at ih ⊢; rw [ih]
theorem map_toCh (L : List Cr) : (L.map toCh).map (·.R) = L.map (·.R) := by induction L with
  | nil => rfl
  | cons C t ih => simp only [List.map_cons]; rw [ih]
theorem Ldr.ch {b0 g : Nat} {w : World} {s : LdS} (h : Ldr b0 w g s) (hs : ∀ C ∈ s.L, RcOk C.R) : ChReads w s.A s.L.length (s.L.map toCh) := by
  refine chReads_own (Cs := s.L.map toCh) (base := b0) (c := s.c) (by rw [flat_toCh]; exact h.l) (by simp) (fun C hC => ?_)
  obtain ⟨D, hD, rfl⟩ := List.mem_map.1 hC
  have hk := hs D hD
  exact ChOwn.ok ⟨(h.own D hD).base (Nat.zero_le _), hk.low, hk.high, hk.key, hk.hkey, hk.ents⟩
theorem PgIn.only {b0 : Nat} {w w' : World} {L : List Rc} {refs : List (Int × Int)} {lv : Lw} {iv : Vw} {A B C D : Option Addr} {c d x y X : Nat} (h : PgIn b0 w L refs lv iv A c B d C x D y) (hX : Blk w X 83 pgZ) (hf : Fr (only X) w w') : PgIn b0 w' L refs lv iv A c B d C x D y := by
  obtain ⟨Cs, h1, h2, h3⟩ := h.ch
  exact ⟨⟨own_fr h.lv.own hf (fun k hk e => own_blk_ne h.lv.own hX (by decide) (by rw [hk, show k = X from e])), h.lv.ok⟩, h.iv.farZ hX hf,
    ⟨Cs, h1, own_fr h2 hf (fun k hk e => own_blk_ne h2 hX (by decide) (by rw [hk, show k = X from e])), fun E hE => (h3 E hE).only hf hX (by decide) (by decide)⟩,
    own_fr h.rf hf (fun k hk e => own_blk_ne h.rf hX (by decide) (by rw [hk, show k = X from e]))⟩
theorem PgIn.base {b0 b1 : Nat} {w : World} {L : List Rc} {refs : List (Int × Int)} {lv : Lw} {iv : Vw} {A B C D : Option Addr} {c d x y : Nat} (h : PgIn b1 w L refs lv iv A c B d C x D y) (hb : b0 ≤ b1) : PgIn b0 w L refs lv iv A c B d C x D y := by
  obtain ⟨Cs, h1, h2, h3⟩ := h.ch
  exact ⟨⟨own_base h.lv.own hb, h.lv.ok⟩, h.iv, ⟨Cs, h1, own_base h2 hb, h3⟩, own_base h.rf hb⟩
/-- What a call of Of told, in a world behind it, and all older than b0 is as it was. -/
def LdMade (b0 : Nat) (s : LdS) (w : World) (v : Value) (w' : World) : Prop :=
  ((∃ leaf lv iv A c B d C x D y, ofM (s.L.map (·.R)) = some (leaf, lv, iv) ∧ v = .tuple #[.agg (pgA s.n s.hs s.hg (.slice C s.L.length x) (.slice D s.refs.length y) leaf lv (.slice A lv.rows.length c) iv (.slice B iv.ents.length d)), .nilIface] ∧ PgIn b0 w' (s.L.map (·.R)) s.refs lv iv A c B d C x D y) ∨
   (∃ k : Int, CodeOf (s.L.map (·.R)) k ∧ ofM (s.L.map (·.R)) = none ∧ v = .tuple #[.agg pgZ, errV k])) ∧ Fr none_ w w'
theorem LdMade.only {b0 : Nat} {s : LdS} {w w1 w' : World} {v : Value} {X : Nat} (h : LdMade b0 s w v w1) (hX : Blk w1 X 83 pgZ) (hf : Fr (only X) w1 w') (hn : w.heap.size ≤ X) : LdMade b0 s w v w' := by
  obtain ⟨h, hf0⟩ := h
  refine ⟨?_, hf0.then_only hf (.inr hn)⟩
  rcases h with ⟨leaf, lv, iv, A, c, B, d, C, x, D, y, h1, h2, h3⟩ | h
  · exact .inl ⟨leaf, lv, iv, A, c, B, d, C, x, D, y, h1, h2, h3.only hX hf⟩
  · exact .inr h
theorem LdMade.of {b0 : Nat} {s : LdS} {w w1 w' : World} {v : Value} (h : OfPostO s.n s.hs s.hg ((s.L.map toCh).map (·.R)) s.refs w1 (.returned v) w') (hf : Fr none_ w w1) (hb : b0 ≤ w1.heap.size) : LdMade b0 s w v w' := by
  unfold OfPostO at h
  rw [map_toCh] at h
  rcases h with ⟨leaf, lv, iv, A, c, B, d, C, x, D, y, h1, h2, h3, h4⟩ | ⟨k, hk, h1, h2, h4⟩
  · refine ⟨.inl ⟨leaf, lv, iv, A, c, B, d, C, x, D, y, h1, ?_, h3.in_.base hb⟩, hf.then_none h4⟩
    have := Ending.returned.inj h2
    rw [this]
    simp
  · exact ⟨.inr ⟨k, hk, h1, Ending.returned.inj h2⟩, hf.then_none h4⟩
theorem LdMade.shape {b0 : Nat} {s : LdS} {w w' : World} {v : Value} (h : LdMade b0 s w v w') : ∃ (pv : Array Value) (ev : Value), v = .tuple #[.agg pv, ev] ∧ pv.size = 21 ∧ pv.all (·.oneCell') = true := by
  rcases h.1 with ⟨leaf, lv, iv, A, c, B, d, C, x, D, y, h1, h2, h3⟩ | ⟨k, hk, h1, h2⟩
  · exact ⟨_, _, h2, rfl, by simp [Value.oneCell']⟩
  · exact ⟨_, _, h2, rfl, by simp [Value.oneCell']⟩
theorem ld_range3 {w : World} {g : Nat} {s : LdS} (h : Blk w g 133 (ldA s)) : w.rangeAt g 3 [.int .i64 s.hs, .int .i64 s.hg] := fun j v hv => by
  match j, hv with
  | 0, hv => have e : some _ = some v := hv; rw [← e]; exact h.cell' rfl
  | 1, hv => have e : some _ = some v := hv; rw [← e]; exact h.cell' rfl
  | k + 2, hv => simp at hv
set_option maxHeartbeats 4000000 in
theorem ldMade_ok {b0 g bx : Nat} {w : World} {s : LdS} (h : Ldr b0 w g s) (hx : Blk w bx 74 #[.pointer (some ⟨g, 0, none⟩)]) (hs : ∀ C ∈ s.L, RcOk C.R) (hl : s.L.length ≤ 400) (h7 : RwOkL (s.L.map toCh)) (he : ∀ C ∈ s.L.map toCh, C.R.ents.length ≤ 500) (hr : s.refs.length ≤ 5000) :
    Calls Tryd.prog 58 #[.pointer (some ⟨bx, 0, none⟩)] w fun e w' => ∃ v, e = .returned v ∧ LdMade w.heap.size s w v w' := by
  obtain ⟨w0, hw0⟩ : ∃ z, z = w.alloc (.cells pgZ 83) := ⟨_, rfl⟩
  have f0 : Fr none_ w w0 := by rw [hw0]; exact (Fr.refl none_ w).alloc _
  have BZ : Hid (Blk w0 w.heap.size 83 pgZ) := hid_ (by rw [hw0]; exact Blk.new w _ _)
  have H := hid_ (h.keep f0)
  have BX := hid_ (hx.fr f0 id)
  have F0 := hid_ f0
  have HS := hid_ (And.intro hs (And.intro hl (And.intro h7 (And.intro he hr))))
  have hsz0 := BZ.out.lt
  clear h hx hs hl h7 he hr f0
  go_enter Tryd.func58, Tryd.ntmps58
  go_upto_region 1 with fail
  change Code.wp _ _ _ _ (w.alloc (.cells pgZ 83))
  rw [← hw0]
  clear hw0
  have hS0 : (fun w' : World => Blk w' g 133 (ldA s) ∧ Blk w' bx 74 #[.pointer (some ⟨g, 0, none⟩)]) w0.drew := ⟨H.out.b.drew, BX.out.drew⟩
  refine wp_region_u 21 (fun w' : World => Blk w' g 133 (ldA s) ∧ Blk w' bx 74 #[.pointer (some ⟨g, 0, none⟩)]) (by kernel_rfl) ?_
  refine u_take 0 (some 3) (.pointer (some ⟨g, 0, none⟩)) rfl rfl (by kernel_rfl) (by kernel_rfl) (by kernel_rfl) (by kernel_rfl) (fun _ _ _ h => h) (y_cell 74 (.tmp 0) ⟨bx, 0, none⟩ _ (by kernel_rfl) rfl (by kernel_rfl) (fun w' hS => hS.2.cell' rfl) Tryd.underlying74 rfl) hS0 ?_
  go_frame
  refine u_take 1 (some 4) (.pointer (some ⟨g, 0, none⟩)) rfl rfl (by kernel_rfl) (by kernel_rfl) (by kernel_rfl) (by kernel_rfl) (fun _ _ _ h => h) (y_val (by kernel_rfl) (fun w' hS => by kernel_rfl)) hS0 ?_
  go_frame
  refine u_take 2 (some 5) (.pointer (some ⟨g, 0, none⟩)) rfl rfl (by kernel_rfl) (by kernel_rfl) (by kernel_rfl) (by kernel_rfl) (fun _ _ _ h => h) (y_val (by kernel_rfl) (fun w' hS => by kernel_rfl)) hS0 ?_
  go_frame
  refine u_take 3 (some 6) (.int .i64 s.n) rfl rfl (by kernel_rfl) (by kernel_rfl) (by kernel_rfl) (by kernel_rfl) (fun _ _ _ h => h) (y_cell 3 (.tmp 5) ⟨g, 0, none⟩ _ (by kernel_rfl) rfl (by kernel_rfl) (fun w' hS => hS.1.cell' rfl) Tryd.underlying3 rfl) hS0 ?_
  go_frame
  refine u_take 4 (some 7) (.pointer (some ⟨g, 0, none⟩)) rfl rfl (by kernel_rfl) (by kernel_rfl) (by kernel_rfl) (by kernel_rfl) (fun _ _ _ h => h) (y_cell 74 (.tmp 0) ⟨bx, 0, none⟩ _ (by kernel_rfl) rfl (by kernel_rfl) (fun w' hS => hS.2.cell' rfl) Tryd.underlying74 rfl) hS0 ?_
  go_frame
  refine u_take 5 (some 8) (.pointer (some ⟨g, 0, none⟩)) rfl rfl (by kernel_rfl) (by kernel_rfl) (by kernel_rfl) (by kernel_rfl) (fun _ _ _ h => h) (y_val (by kernel_rfl) (fun w' hS => by kernel_rfl)) hS0 ?_
  go_frame
  refine u_take 6 (some 9) (.pointer (some ⟨g, 3, none⟩)) rfl rfl (by kernel_rfl) (by kernel_rfl) (by kernel_rfl) (by kernel_rfl) (fun _ _ _ h => h) (y_val (by kernel_rfl) (fun w' hS => by kernel_rfl)) hS0 ?_
  go_frame
  refine u_take 7 (some 10) (.agg #[.int .i64 s.hs, .int .i64 s.hg]) rfl rfl (by kernel_rfl) (by kernel_rfl) (by kernel_rfl) (by kernel_rfl) (fun _ _ _ h => h) (yieldsIf_load_mid (by kernel_rfl) 25 (.tmp 9) rfl g 3 (by kernel_rfl) [.int .i64 s.hs, .int .i64 s.hg] _ (fun w' hS => ld_range3 hS.1) Tryd.underlying25 rfl ref_size9) hS0 ?_
  go_frame
  refine u_take 8 (some 11) (.pointer (some ⟨g, 0, none⟩)) rfl rfl (by kernel_rfl) (by kernel_rfl) (by kernel_rfl) (by kernel_rfl) (fun _ _ _ h => h) (y_cell 74 (.tmp 0) ⟨bx, 0, none⟩ _ (by kernel_rfl) rfl (by kernel_rfl) (fun w' hS => hS.2.cell' rfl) Tryd.underlying74 rfl) hS0 ?_
  go_frame
  refine u_take 9 (some 12) (.pointer (some ⟨g, 0, none⟩)) rfl rfl (by kernel_rfl) (by kernel_rfl) (by kernel_rfl) (by kernel_rfl) (fun _ _ _ h => h) (y_val (by kernel_rfl) (fun w' hS => by kernel_rfl)) hS0 ?_
  go_frame
  refine u_take 10 (some 13) (.pointer (some ⟨g, 7, none⟩)) rfl rfl (by kernel_rfl) (by kernel_rfl) (by kernel_rfl) (by kernel_rfl) (fun _ _ _ h => h) (y_val (by kernel_rfl) (fun w' hS => by kernel_rfl)) hS0 ?_
  go_frame
  refine u_take 11 (some 14) (.slice s.A s.L.length s.c) rfl rfl (by kernel_rfl) (by kernel_rfl) (by kernel_rfl) (by kernel_rfl) (fun _ _ _ h => h) (y_cell 61 (.tmp 13) ⟨g, 7, none⟩ _ (by kernel_rfl) rfl (by kernel_rfl) (fun w' hS => hS.1.cell' rfl) Tryd.underlying61 rfl) hS0 ?_
  go_frame
  refine u_take 12 (some 15) (.pointer (some ⟨g, 0, none⟩)) rfl rfl (by kernel_rfl) (by kernel_rfl) (by kernel_rfl) (by kernel_rfl) (fun _ _ _ h => h) (y_cell 74 (.tmp 0) ⟨bx, 0, none⟩ _ (by kernel_rfl) rfl (by kernel_rfl) (fun w' hS => hS.2.cell' rfl) Tryd.underlying74 rfl) hS0 ?_
  go_frame
  refine u_take 13 (some 16) (.pointer (some ⟨g, 0, none⟩)) rfl rfl (by kernel_rfl) (by kernel_rfl) (by kernel_rfl) (by kernel_rfl) (fun _ _ _ h => h) (y_val (by kernel_rfl) (fun w' hS => by kernel_rfl)) hS0 ?_
  go_frame
  refine u_take 14 (some 17) (.pointer (some ⟨g, 8, none⟩)) rfl rfl (by kernel_rfl) (by kernel_rfl) (by kernel_rfl) (by kernel_rfl) (fun _ _ _ h => h) (y_val (by kernel_rfl) (fun w' hS => by kernel_rfl)) hS0 ?_
  go_frame
  refine u_take 15 (some 18) (.slice s.B s.refs.length s.e) rfl rfl (by kernel_rfl) (by kernel_rfl) (by kernel_rfl) (by kernel_rfl) (fun _ _ _ h => h) (y_cell 62 (.tmp 17) ⟨g, 8, none⟩ _ (by kernel_rfl) rfl (by kernel_rfl) (fun w' hS => hS.1.cell' rfl) Tryd.underlying62 rfl) hS0 ?_
  go_frame
  clear hS0
  refine u_callE 16 (some 19) 59 #[.int .i64 s.n, .agg #[.int .i64 s.hs, .int .i64 s.hg], .slice s.A s.L.length s.c, .slice s.B s.refs.length s.e] (fun v w' => LdMade w.heap.size s w v w' ∧ Fr none_ w0 w') rfl rfl (by kernel_rfl) (by kernel_rfl) (by kernel_rfl) ((of_okO s.n s.hs s.hg s.A s.L.length s.c (s.L.map toCh) s.refs s.B s.e w0.drew ((H.out.ch HS.out.1).keep (Fr.refl none_ w0).drew) HS.out.2.1 HS.out.2.2.1 HS.out.2.2.2.1 (Reads.of_own (own_none H.out.r (Fr.refl none_ w0).drew)) HS.out.2.2.2.2).mono (fun e w' hh => ?_)) ?_
  · have hfr : Fr none_ w0.drew w' := by rcases hh with ⟨_, _, _, _, _, _, _, _, _, _, _, _, _, _, h4⟩ | ⟨_, _, _, _, h4⟩ <;> exact h4
    have he : ∃ v, e = .returned v := by rcases hh with ⟨_, _, _, _, _, _, _, _, _, _, _, _, h2, _⟩ | ⟨_, _, _, h2, _⟩ <;> exact ⟨_, h2⟩
    obtain ⟨v, rfl⟩ := he
    exact ⟨v, rfl, LdMade.of hh (F0.out.then_none (Fr.refl none_ w0).drew) (by have := F0.out.size; simp; omega), (Fr.refl none_ w0).drew.then_none hfr⟩
  intro v w5 hh
  obtain ⟨pv, ev, rfl, hps, hpo⟩ := hh.1.shape
  have LM := hid_ hh.1
  have BZ5 := hid_ (BZ.out.fr hh.2 id)
  have hS5 : (fun w' : World => Blk w' g 133 (ldA s) ∧ Blk w' bx 74 #[.pointer (some ⟨g, 0, none⟩)]) w5 := ⟨H.out.b.fr hh.2 id, BX.out.fr hh.2 id⟩
  have FR5 := hid_ hh.2
  have hsz5 := hh.2.size
  clear hh
  refine ⟨hS5, ?_⟩
  go_frame
  refine u_take 17 (some 20) (.agg pv) rfl rfl (by kernel_rfl) (by kernel_rfl) (by kernel_rfl) (by kernel_rfl) (fun _ _ _ h => h) (y_val (by kernel_rfl) (fun w' hS => by kernel_rfl)) hS5 ?_
  go_frame
  refine u_take 18 (some 21) (ev) rfl rfl (by kernel_rfl) (by kernel_rfl) (by kernel_rfl) (by kernel_rfl) (fun _ _ _ h => h) (y_val (by kernel_rfl) (fun w' hS => by kernel_rfl)) hS5 ?_
  go_frame
  clear hS5
  have S5 : Hid ((fun w' : World => Blk w' g 133 (ldA s) ∧ Blk w' bx 74 #[.pointer (some ⟨g, 0, none⟩)]) w5) := hid_ ⟨H.out.b.fr FR5.out id, BX.out.fr FR5.out id⟩
  refine u_store 19 83 (.tmp 1) (.tmp 20) w.heap.size 0 pv rfl rfl (by kernel_rfl) (by kernel_rfl) rfl (by kernel_rfl) (by kernel_rfl) (by rw [hps]; exact BZ5.out.there7 rfl) (by rw [hps]; exact page_size) hpo ?_
  intro w6 hw6
  have ov := BZ5.out.over7 pv.toList (by simp [hps])
  rw [← hw6] at ov
  have OV := hid_ ov
  have LM6 := hid_ (LM.out.only BZ5.out ov.2 (Nat.le_refl _))
  have S6 : Hid ((fun w' : World => Blk w' g 133 (ldA s) ∧ Blk w' bx 74 #[.pointer (some ⟨g, 0, none⟩)]) w6) := hid_ ⟨S5.out.1.fr ov.2 (only_ne (Blk.ne_ S5.out.1 BZ5.out (by decide))), S5.out.2.fr ov.2 (only_ne (Blk.ne_ S5.out.2 BZ5.out (by decide)))⟩
  clear hw6 ov
  refine ⟨S6.out, ?_⟩
  refine u_run 20 (some 2) ev w6 rfl rfl (by kernel_rfl) (by kernel_rfl) (by kernel_rfl) (.inr S6.out) ?_
  go_frame
  refine u_done (by kernel_rfl) ?_
  go_wp2_with fail
  refine bodyPost_ret (results_cell_tmp7 _ _ rfl w.heap.size 0 pv.toList _ rfl (Blk.range7 (l := pv.toList) (by simpa using OV.out.1)) Tryd.underlying83 rfl (by rw [Array.length_toList, hps]; exact page_size)) rfl ⟨_, rfl, ?_⟩
  simpa using LM6.out
end Go.Proofs.YtfihfjbakfadkaaDoor
namespace Go.Proofs.YtfihfjbakfadkaaDoor
open Go.RowKit Go.BigFrame
set_option maxRecDepth 100000
set_option linter.unusedVariables false

/-- The two boxes that Page begins with. -/
theorem page_boxes (w : World) (v : Value) : ∃ w0, w0 = (w.alloc (.cells #[v] 74)).alloc (.cells pgZ 83) ∧ Fr none_ w w0 ∧ Blk w0 w.heap.size 74 #[v] ∧ Blk w0 (w.heap.size + 1) 83 pgZ :=
  ⟨_, rfl, ((Fr.refl none_ w).alloc _).alloc _, (Blk.new w _ _).alloc _, Blk.new7 _ _ (by simp)⟩
theorem LdMade.wide {b0 b1 : Nat} {s : LdS} {w w1 w' : World} {v : Value} (h : LdMade b1 s w1 v w') (hf : Fr none_ w w1) (hb : b0 ≤ b1) : LdMade b0 s w v w' := by
  obtain ⟨h, hf0⟩ := h
  refine ⟨?_, hf.then_none hf0⟩
  rcases h with ⟨leaf, lv, iv, A, c, B, d, C, x, D, y, h1, h2, h3⟩ | h
  · exact .inl ⟨leaf, lv, iv, A, c, B, d, C, x, D, y, h1, h2, h3.base hb⟩
  · exact .inr h
set_option maxHeartbeats 4000000 in
theorem ldPage_made {b0 g : Nat} {w : World} {s : LdS} (h : Ldr b0 w g s) (ho : s.over = true) (hv : s.ve = .nilIface) (hs : ∀ C ∈ s.L, RcOk C.R) (hl : s.L.length ≤ 400) (h7 : RwOkL (s.L.map toCh)) (he : ∀ C ∈ s.L.map toCh, C.R.ents.length ≤ 500) (hr : s.refs.length ≤ 5000) :
    Calls Tryd.prog 24 #[.pointer (some ⟨g, 0, none⟩)] w fun e w' => ∃ v, e = .returned v ∧ LdMade w.heap.size s w v w' := by
  obtain ⟨w0, hw0, f0, bx, bz⟩ := page_boxes w (.pointer (some ⟨g, 0, none⟩))
  have BX := hid_ bx
  have BZ := hid_ bz
  have F0 := hid_ f0
  have H := hid_ (h.keep f0)
  have HS := hid_ (And.intro hs (And.intro hl (And.intro h7 (And.intro he hr))))
  have x0 : w0.cell? ⟨w.heap.size, 0, none⟩ = some (.pointer (some ⟨g, 0, none⟩)) := bx.cell' rfl
  have g2 : w0.cell? ⟨g, 2, none⟩ = some (.bool true) := by rw [← ho]; exact H.out.b.cell' rfl
  have g9 : w0.cell? ⟨g, 9, none⟩ = some .nilIface := by rw [← hv]; exact H.out.b.cell' rfl
  have hsz0 := f0.size
  have hbl := bz.lt
  clear bx bz f0 h ho hv hs hl h7 he hr
  go_enter Tryd.func24, Tryd.ntmps24
  go_upto_region 1 with fail
  change Code.wp _ _ _ _ ((w.alloc (.cells #[.pointer (some ⟨g, 0, none⟩)] 74)).alloc (.cells pgZ 83))
  rw [← hw0]
  clear hw0
  go_wp2_with fail
  refine (ldMade_ok H.out BX.out HS.out.1 HS.out.2.1 HS.out.2.2.1 HS.out.2.2.2.1 HS.out.2.2.2.2).mono ?_
  rintro e w5 ⟨v, rfl, hm⟩
  obtain ⟨pv, ev, rfl, hps, hpo⟩ := hm.shape
  have LM := hid_ hm
  have BZ5 := hid_ (BZ.out.fr hm.2 id)
  clear hm x0 g2 g9
  go_wp2_with (refine wpList_store_mid rfl 83 (.tmp 2) (.tmp 32) rfl (w.heap.size + 1) 0 pv rfl rfl (by rw [hps]; exact BZ5.out.there7 rfl) (by rw [hps]; exact page_size) hpo ?_; have ov := BZ5.out.over7 pv.toList (by simp [hps]); obtain ⟨w9, hw9⟩ : ∃ z, z = w5.setCells (w.heap.size + 1) 0 pv.toList := ⟨_, rfl⟩; rw [← hw9] at ov; change wpList _ _ _ _ _ (w5.setCells (w.heap.size + 1) 0 pv.toList); rw [← hw9]; have OV := hid_ ov; clear hw9 ov)
  refine bodyPost_ret (results_cell_tmp7 _ _ rfl (w.heap.size + 1) 0 pv.toList _ rfl (Blk.range7 (l := pv.toList) (by simpa using OV.out.1)) Tryd.underlying83 rfl (by rw [Array.length_toList, hps]; exact page_size)) rfl ⟨_, rfl, ?_⟩
  have hfin := (LM.out.wide F0.out hsz0).only BZ5.out OV.out.2 (by omega)
  simpa using hfin
end Go.Proofs.YtfihfjbakfadkaaDoor
namespace Go.Proofs.YtfihfjbakfadkaaDoor
open Go.RowKit Go.BigFrame
set_option maxRecDepth 100000
set_option linter.unusedVariables false

/-- How far a loader is on a page whose chain is js: p accesses. -/
structure LdPh (ss : List Sl) (js : List Nat) (n s0 g0 : Int) (p : Nat) (s : LdS) : Prop where
  nn : s.n = n
  bg : s.begun = decide (0 < p)
  ov : s.over = decide (p = js.length + 1)
  le : p ≤ js.length + 1
  hd : 0 < p → s.hs = s0 ∧ s.hg = g0
  ls : s.L.map (·.R) = (js.take (p - 1)).map (recOf ss)
  rs : s.refs = (js.take (p - 1)).map (refOf ss)
  nx : 0 < p → Links ss (js.drop (p - 1)) s.ns s.ng
  ve : s.ve = .nilIface
theorem LdPh.new (ss : List Sl) (js : List Nat) (n s0 g0 : Int) : LdPh ss js n s0 g0 0 (LdS.new n) :=
  ⟨rfl, rfl, by simp, Nat.zero_le _, fun h => absurd h (Nat.lt_irrefl 0), rfl, rfl, fun h => absurd h (Nat.lt_irrefl 0), rfl⟩
theorem LdPh.len {ss : List Sl} {js : List Nat} {n s0 g0 : Int} {p : Nat} {s : LdS} (h : LdPh ss js n s0 g0 p s) : s.L.length = p - 1 ∧ s.refs.length = p - 1 := by
  have hle := h.le
  refine ⟨?_, ?_⟩
  · have := congrArg List.length h.ls
    simp only [List.length_map, List.length_take] at this
    omega
  · have := congrArg List.length h.rs
    simp only [List.length_map, List.length_take] at this
    omega
/-- A chain's first ref is none if, and only if, it has no record. -/
theorem links_zero {ss : List Sl} : ∀ {js : List Nat} {s g : Int}, Links ss js s g → (s = 0 ∧ g = 0 ↔ js = [])
  | [], s, g, h => ⟨fun _ => rfl, fun _ => h⟩
  | j :: r, s, g, h => by
    obtain ⟨h1, _⟩ := h
    constructor
    · rintro ⟨h2, _⟩; omega
    · intro h2; cases h2
theorem load_links {ss : List Sl} {j : Nat} {r : List Nat} {s g : Int} {R : Rc} {k : Int} (h : Links ss (j :: r) s g) (hl : LoadR ss s g R k) : k = 0 ∧ R = recOf ss j ∧ (s, g) = refOf ss j ∧ Links ss r R.nslot R.ngen := by
  obtain ⟨h1, y, h2, h3, h4, h5⟩ := h
  rcases hl with ⟨i, t, e1, e2, e3, e4, e5, e6⟩ | ⟨e, _⟩
  · have hij : i = j := by omega
    subst hij
    have ht : t = y := by rw [h2] at e2; exact (Option.some.inj e2).symm
    subst ht
    refine ⟨e5, by rw [e6]; unfold recOf; rw [slotD h2], ?_, by rw [e6]; exact h5⟩
    unfold refOf
    rw [slotD h2, h1, h4]
  · exfalso
    refine e ?_
    rcases atC_cases ss s g with ⟨e0, hno⟩ | ⟨i, z, f1, f2, f3⟩
    · have hlt := (List.getElem?_eq_some_iff.1 h2).1
      omega
    · have hij : i = j := by omega
      subst hij
      have ht : z = y := by rw [h2] at f2; exact (Option.some.inj f2).symm
      subst ht
      rcases f3 with ⟨_, f4⟩ | ⟨f3, _⟩
      · exact absurd ⟨h3, h4⟩ f4
      · exact f3
/-- Whose own a loader's rows are behind a step. -/
def OwnStep (s s' : LdS) (w : World) : Prop :=
  (∀ k, (Value.slice s'.A s'.L.length s'.c).ownBlock = some k → (Value.slice s.A s.L.length s.c).ownBlock = some k ∨ w.heap.size ≤ k) ∧
  (∀ k, (Value.slice s'.B s'.refs.length s'.e).ownBlock = some k → (Value.slice s.B s.refs.length s.e).ownBlock = some k ∨ w.heap.size ≤ k)
/-- Two loaders' rows are not the same. -/
def Sep (s t : LdS) : Prop :=
  (∀ k, (Value.slice s.A s.L.length s.c).ownBlock = some k → (Value.slice t.A t.L.length t.c).ownBlock ≠ some k) ∧
  (∀ k, (Value.slice s.B s.refs.length s.e).ownBlock = some k → (Value.slice t.B t.refs.length t.e).ownBlock ≠ some k)
theorem Sep.symm {s t : LdS} (h : Sep s t) : Sep t s := ⟨fun k a b => h.1 k b a, fun k a b => h.2 k b a⟩
theorem Sep.step {b0 g : Nat} {w : World} {s t t' : LdS} (h : Sep s t) (hs : Ldr b0 w g s) (ho : OwnStep t t' w) : Sep s t' :=
  ⟨fun k a b => by
    rcases ho.1 k b with e | e
    · exact h.1 k a e
    · have := (hs.l.lt k a).2; omega, fun k a b => by
    rcases ho.2 k b with e | e
    · exact h.2 k a e
    · have := (hs.r.lt k a).2; omega⟩
/-- A loader stands while another one does a step. -/
theorem Ldr.beside {b0 b1 g g' m : Nat} {x : St} {w w' : World} {s t : LdS} (h : Ldr b0 w g s) (k : Ldr b1 w g' t) (hf : Fr (lown m x g' t) w w') (hb : ∀ i, mall m x i → i < b0) (hg : g ≠ g') (hs : Sep s t) : Ldr b0 w' g s := by
  have hmall : ∀ i, b0 ≤ i → ¬ mall m x i := fun i hi e => by have := hb i e; omega
  refine ⟨h.b.fr hf ?_, h.lb, own_fr h.l hf ?_, own_fr h.r hf ?_, fun C hC => (h.own C hC).fr hf ?_ ?_⟩
  · rintro (e | e | e | e)
    · exact hmall g h.lb e
    · exact hg e
    · exact own_blk_ne k.l h.b (by decide) e
    · exact own_blk_ne k.r h.b (by decide) e
  · intro i hi
    rintro (e | e | e | e)
    · exact hmall i (h.l.lt i hi).1 e
    · exact own_blk_ne h.l k.b (by decide) (by rw [hi, e])
    · exact hs.1 i hi e
    · exact own_own_ne h.l k.r (by decide) i hi e
  · intro i hi
    rintro (e | e | e | e)
    · exact hmall i (h.r.lt i hi).1 e
    · exact own_blk_ne h.r k.b (by decide) (by rw [hi, e])
    · exact own_own_ne h.r k.l (by decide) i hi e
    · exact hs.2 i hi e
  · intro i hi
    rintro (e | e | e | e)
    · exact hmall i ((h.own C hC).r.lt i hi).1 e
    · exact own_blk_ne (h.own C hC).r k.b (by decide) (by rw [hi, e])
    · exact own_own_ne (h.own C hC).r k.l (by decide) i hi e
    · exact own_own_ne (h.own C hC).r k.r (by decide) i hi e
  · intro i hi
    rintro (e | e | e | e)
    · exact hmall i ((h.own C hC).e.lt i hi).1 e
    · exact own_blk_ne (h.own C hC).e k.b (by decide) (by rw [hi, e])
    · exact own_own_ne (h.own C hC).e k.l (by decide) i hi e
    · exact own_own_ne (h.own C hC).e k.r (by decide) i hi e
set_option maxHeartbeats 4000000 in
theorem step_ph {b0 g m : Nat} {k : Int} {l : Lm} {x : St} {w : World} {s : LdS} {js : List Nat} {n s0 g0 : Int} {p : Nat} (h : Ldr b0 w g s) (hm : Mm w m k l x) (hb : ∀ i, mall m x i → i < b0) (h0 : 0 ≤ k) (h1 : k ≤ 100000) (ph : LdPh x.ss js n s0 g0 p s) (hp : p ≤ js.length)
    (hpg : ∃ i : Nat, n = (i : Int) ∧ x.ps[i]? = some (true, s0, g0)) (hl : Links x.ss js s0 g0) (hne : js ≠ []) (hls : js.length ≤ l.s) (hl2 : js.length ≤ 4000) :
    Calls Tryd.prog 23 #[.pointer (some ⟨g, 0, none⟩), .pointer (some ⟨m, 0, none⟩)] w fun e w' => ∃ s', e = .returned (.bool (decide (p = js.length))) ∧ LdPh x.ss js n s0 g0 (p + 1) s' ∧ Ldr b0 w' g s' ∧ Mm w' m (k + 1) l x ∧ Fr (lown m x g s) w w' ∧ OwnStep s s' w := by
  have hlen : 0 < js.length := List.length_pos_iff.2 hne
  have hov : s.over = false := by rw [ph.ov]; exact decide_eq_false (by omega)
  cases p with
  | zero =>
    have hbg : s.begun = false := by rw [ph.bg]; rfl
    refine (step_firstO h hm hb h0 h1 hov hbg).mono ?_
    rintro e w' ⟨a, b, c, v, hd, _, hmm, hf, hcase⟩
    obtain ⟨i, hi, hpi⟩ := hpg
    obtain ⟨rfl, rfl, rfl⟩ : a = s0 ∧ b = g0 ∧ c = 0 := by
      rw [ph.nn] at hd
      rcases hd with ⟨j, e1, e2, e3⟩ | ⟨e, _⟩
      · have hij : i = j := by omega
        subst hij
        have e4 : (true, s0, g0) = (true, a, b) := Option.some.inj (hpi.symm.trans e2)
        simp only [Prod.mk.injEq] at e4
        exact ⟨e4.2.1.symm, e4.2.2.symm, e3⟩
      · exact absurd (by rw [hi]; exact pgC_used hpi) e
    rcases hcase with ⟨e1, _⟩ | ⟨_, e1, e2, _⟩ | ⟨_, _, e1, e2⟩
    · exact absurd rfl e1
    · exact absurd ((links_zero hl).1 ⟨e1, e2⟩) hne
    · refine ⟨{ s with begun := true, hs := a, hg := b, ns := a, ng := b }, by rw [e1, show decide (0 = js.length) = false from decide_eq_false (by omega)], ⟨ph.nn, rfl, ?_, by omega, fun _ => ⟨rfl, rfl⟩, ph.ls, ph.rs, fun _ => hl, ph.ve⟩, e2, hmm, hf, fun k hk => .inl hk, fun k hk => .inl hk⟩
      show s.over = _
      rw [hov]
      exact (decide_eq_false (by omega)).symm
  | succ q =>
    have hbg : s.begun = true := by rw [ph.bg]; exact decide_eq_true (by omega)
    have hlq := ph.len
    simp only [Nat.add_sub_cancel] at hlq
    refine (step_nextO h hm hb h0 h1 hov hbg (by omega) (by omega)).mono ?_
    rintro e w' ⟨R, A, c, B, d, kk, v, hld, _, hmm, hf, hcase⟩
    have hq : q < js.length := by omega
    have hnx := ph.nx (by omega)
    simp only [Nat.add_sub_cancel] at hnx
    rw [List.drop_eq_getElem_cons hq] at hnx
    obtain ⟨rfl, hR, hrf, hrest⟩ := load_links hnx hld
    rcases hcase with ⟨e1, _⟩ | ⟨_, A', c', B', d', ov, ve, e1, e2, ho1, ho2, hc⟩
    · exact absurd rfl e1
    have hfin : ov = decide (q + 1 = js.length) ∧ ve = .nilIface := by
      have hz := links_zero hrest
      have hdl : js.drop (q + 1) = [] ↔ js.length ≤ q + 1 := List.drop_eq_nil_iff
      rcases hc with ⟨z1, z2, z3, z4⟩ | ⟨z1, z2, _, _⟩ | ⟨z1, _, z3, z4⟩
      · have := hdl.1 (hz.1 ⟨z1, z2⟩)
        exact ⟨by rw [z3]; exact (decide_eq_true (by omega)).symm, z4⟩
      · exfalso
        have : ¬ js.length ≤ q + 1 := fun hle => z1 (hz.2 (hdl.2 hle))
        omega
      · have : ¬ js.length ≤ q + 1 := fun hle => z1 (hz.2 (hdl.2 hle))
        exact ⟨by rw [z3]; exact (decide_eq_false (by omega)).symm, by rw [z4]; exact ph.ve⟩
    refine ⟨⟨s.n, s.begun, ov, s.hs, s.hg, R.nslot, R.ngen, A', c', s.L ++ [⟨R, A, c, B, d⟩], B', d', s.refs ++ [(s.ns, s.ng)], ve⟩, by rw [e1, hfin.1], ⟨ph.nn, ?_, ?_, by omega, fun _ => ph.hd (by omega), ?_, ?_, fun _ => by simpa using hrest, hfin.2⟩, e2, hmm, hf, fun k hk => ho1 k (by simpa using hk), fun k hk => ho2 k (by simpa using hk)⟩
    · show s.begun = _
      rw [hbg]
      exact (decide_eq_true (by omega)).symm
    · show ov = _
      rw [hfin.1]
      simp
    · have hls' := ph.ls
      simp only [Nat.add_sub_cancel] at hls' ⊢
      rw [List.take_add_one, List.getElem?_eq_getElem hq, List.map_append, List.map_append, hls']
      simp [hR]
    · have hrs' := ph.rs
      simp only [Nat.add_sub_cancel] at hrs' ⊢
      rw [List.take_add_one, List.getElem?_eq_getElem hq, List.map_append, hrs']
      simp [hrf]
/-- A chain none of whose slots was set stands. -/
theorem links_set {ss : List Sl} {i : Nat} {y : Sl} : ∀ {js : List Nat} {s g : Int}, Links ss js s g → (∀ j ∈ js, j ≠ i) → Links (ss.set i y) js s g
  | [], s, g, h, _ => h
  | j :: r, s, g, h, hn => by
    obtain ⟨h1, z, h2, h3, h4, h5⟩ := h
    exact ⟨h1, z, by rw [List.getElem?_set_ne (Ne.symm (hn j (by simp)))]; exact h2, h3, h4, links_set h5 (fun q hq => hn q (by simp [hq]))⟩
theorem links_used {ss : List Sl} : ∀ {js : List Nat} {s g : Int}, Links ss js s g → ∀ j ∈ js, ∃ y, ss[j]? = some y ∧ y.used = true
  | [], _, _, _, j, hj => by cases hj
  | i :: r, s, g, h, j, hj => by
    obtain ⟨_, z, h2, h3, _, h5⟩ := h
    rcases List.mem_cons.1 hj with rfl | hj
    · exact ⟨z, h2, h3⟩
    · exact links_used h5 j hj
theorem rec_set {ss : List Sl} {i : Nat} {y : Sl} {js : List Nat} (hn : ∀ j ∈ js, j ≠ i) : js.map (recOf (ss.set i y)) = js.map (recOf ss) ∧ js.map (refOf (ss.set i y)) = js.map (refOf ss) := by
  have e : ∀ j ∈ js, (ss.set i y).getD j Sl.zero = ss.getD j Sl.zero := fun j hj => by
    simp only [List.getD_eq_getElem?_getD]
    rw [List.getElem?_set_ne (Ne.symm (hn j hj))]
  exact ⟨List.map_congr_left fun j hj => by unfold recOf; rw [e j hj], List.map_congr_left fun j hj => by unfold refOf; rw [e j hj]⟩
/-- A chain stands when a record is put; its records are what they were. -/
theorem links_alloc {last : Int} {ss ss' : List Sl} {R : Rc} {sl gn c s g : Int} {js : List Nat} (h : Links ss js s g) (ha : AllocR last ss R sl gn c ss') : Links ss' js s g ∧ js.map (recOf ss') = js.map (recOf ss) ∧ js.map (refOf ss') = js.map (refOf ss) := by
  rcases ha with ⟨i, t, vr, ve, h1, ⟨h2, _⟩, _, _, _, _, rfl⟩ | ⟨_, _, _, _, rfl⟩
  · have hn : ∀ j ∈ js, j ≠ i := fun j hj e => by
      obtain ⟨y, hy, hu⟩ := links_used h j hj
      rw [e, h1] at hy
      cases hy
      rw [h2] at hu
      cases hu
    exact ⟨links_set h hn, (rec_set hn).1, (rec_set hn).2⟩
  · exact ⟨h, rfl, rfl⟩
/-- What is put on a chain's head begins a longer one. -/
theorem links_push {last : Int} {ss ss' : List Sl} {R : Rc} {sl gn s g : Int} {js : List Nat} (h : Links ss js s g) (ha : AllocR last ss R sl gn 0 ss') (hR : R.nslot = s ∧ R.ngen = g) : ∃ i, Links ss' (i :: js) sl gn ∧ recOf ss' i = R ∧ js.map (recOf ss') = js.map (recOf ss) ∧ js.map (refOf ss') = js.map (refOf ss) := by
  have hla := links_alloc h ha
  rcases ha with ⟨i, t, vr, ve, h1, _, _, rfl, rfl, _, rfl⟩ | ⟨_, _, _, hc, _⟩
  · have hl := (List.getElem?_eq_some_iff.1 h1).1
    have hs : (ss.set i ⟨t.gen + 1, true, R, vr, ve⟩)[i]? = some ⟨t.gen + 1, true, R, vr, ve⟩ := by rw [List.getElem?_set_self hl]
    refine ⟨i, ⟨rfl, _, hs, rfl, rfl, ?_⟩, by unfold recOf; rw [slotD hs], hla.2.1, hla.2.2⟩
    show Links _ js R.nslot R.ngen
    rw [hR.1, hR.2]
    exact hla.1
  · exact absurd hc.symm (allocErr_pos ss)
end Go.Proofs.YtfihfjbakfadkaaDoor
namespace Go.Proofs.YtfihfjbakfadkaaDoor
open Go.RowKit Go.BigFrame
set_option maxRecDepth 100000
set_option linter.unusedVariables false

theorem memCount_ok {m : Nat} {k : Int} {l : Lm} {x : St} (w : World) (h : Mm w m k l x) : Calls Tryd.prog 27 #[.pointer (some ⟨m, 0, none⟩)] w fun e w' => e = .returned (.int .i64 k) ∧ w = w' := by
  have c0 : w.cell? ⟨m, 0, none⟩ = some (.int .i64 k) := h.b.cell' rfl
  clear h
  go_enter Tryd.func27, Tryd.ntmps27
  go_wp2
  go_ret
  exact ⟨rfl, rfl⟩
theorem Mm.mall_lt {w : World} {m : Nat} {k : Int} {l : Lm} {x : St} (h : Mm w m k l x) : ∀ i, mall m x i → i < w.heap.size := by
  obtain ⟨cs, hG, _⟩ := h.ar.hG
  obtain ⟨cap, cur, hT0, hH, _⟩ := id h.tb
  rintro i (e | e | e | e | e)
  · rw [e]; exact h.b.lt
  · rw [e]; exact hG.lt
  · rw [e]; exact hH.lt
  · rw [e]; exact h.ck.hC.lt
  · obtain ⟨es, clock, hm, r⟩ := h.ck.hM
    rw [e]
    rcases Nat.lt_or_ge x.M w.heap.size with h1 | h1
    · exact h1
    · rw [Array.getElem?_eq_none h1] at hm; cases hm
abbrev lim10 : Lm := ⟨100, 4, 2, 4, 4, 99⟩
theorem lim10_right : lim10.Right := ⟨by decide, by decide, by decide, by decide, by decide, by decide⟩
theorem limits10_ok (w : World) : Calls Tryd.prog 20 #[] w fun e w' => e = .returned (.agg (lmA lim10)) ∧ Fr none_ w w' := by
  obtain ⟨w0, hw0⟩ : ∃ z, z = w.alloc (.cells #[.int .i64 0, .int .i64 0, .int .i64 0, .int .i64 0, .int .i64 0, .int .i64 0] 23) := ⟨_, rfl⟩
  have f0 : Fr none_ w w0 := by rw [hw0]; exact (Fr.refl none_ w).alloc _
  have BZ : Hid (Blk w0 w.heap.size 23 #[.int .i64 0, .int .i64 0, .int .i64 0, .int .i64 0, .int .i64 0, .int .i64 0]) := hid_ (by rw [hw0]; exact Blk.new w _ _)
  have F0 := hid_ f0
  clear f0
  go_enter Tryd.func20, Tryd.ntmps20
  go_upto_region 1 with fail
  change Code.wp _ _ _ _ (w.alloc (.cells #[.int .i64 0, .int .i64 0, .int .i64 0, .int .i64 0, .int .i64 0, .int .i64 0] 23))
  rw [← hw0]
  clear hw0
  go_wp2_with (refine wpList_store_mid rfl 23 (.tmp 0) (.tmp 1) rfl w.heap.size 0 (lmA lim10) rfl rfl (BZ.out.there9 rfl) lim_size9 (by simp [Value.oneCell']) ?_; have ov := BZ.out.over9 (lmA lim10).toList rfl; obtain ⟨w9, hw9⟩ : ∃ z, z = w0.setCells w.heap.size 0 (lmA lim10).toList := ⟨_, rfl⟩; rw [← hw9] at ov; change wpList _ _ _ _ _ (w0.setCells w.heap.size 0 (lmA lim10).toList); rw [← hw9]; have OV := hid_ ov; clear hw9 ov)
  exact bodyPost_ret (results_cell7 _ _ rfl w.heap.size 0 (lmA lim10).toList _ rfl (Blk.range7 (l := (lmA lim10).toList) OV.out.1) Tryd.underlying23 rfl lim_size9) rfl ⟨rfl, F0.out.then_only OV.out.2 (.inr (Nat.le_refl _))⟩
theorem lt_nil10 (x : ByteArray) : ltS x nilS = false := by
  rcases ltS_total x nilS with h | h | h
  · exfalso
    have h2 : ltL x.data.toList [] = true := h
    cases hx : x.data.toList <;> rw [hx] at h2 <;> simp [ltL] at h2
  · rw [h]; exact ltS_irrefl _
  · exact ltS_asymm h
abbrev lvZ10 : Lw := ⟨nilS, nilS, true, 0, [], false⟩
theorem of_leaf10 : ofM [leafR] = some (true, lvZ10, Vw.zero) := by
  unfold ofM
  rw [if_pos (by rfl), foldL_one leafR rfl ⟨fun _ => rfl, ⟨(fun p hp => by cases hp), (fun i p q hp hq => by simp at hp)⟩, (fun p hp => by cases hp)⟩]
  rfl
theorem leafR_ok : RcOk leafR := ⟨SzOk.nil, SzOk.nil, SzOk.nil, SzOk.nil, ⟨Nat.zero_le _, fun p hp => by cases hp⟩⟩
/-- A new memory's parts. -/
abbrev ss10 (vr ve : Value) : List Sl := ⟨1, true, leafR, vr, ve⟩ :: List.replicate (lim10.s - 1) Sl.zero
abbrev ps10 : List Pg := (true, 1, 1) :: List.replicate (lim10.p - 1) (false, 0, 0)
theorem head10 {s g c : Int} (h : HeadR ps10 0 s g c) : s = 1 ∧ g = 1 ∧ c = 0 := by
  rcases h with ⟨i, hi, hp, hc⟩ | ⟨h, _⟩
  · obtain rfl : i = 0 := by omega
    simp at hp
    exact ⟨hp.1.symm, hp.2.symm, hc⟩
  · exact absurd (pgC_used (i := 0) (ps := ps10) (s := 1) (g := 1) rfl) h
theorem load10 {vr ve : Value} {R : Rc} {c : Int} (h : LoadR (ss10 vr ve) 1 1 R c) : R = leafR ∧ c = 0 := by
  rcases h with ⟨i, s, hi, hs, _, _, hc, hR⟩ | ⟨h, _⟩
  · obtain rfl : i = 0 := by omega
    have hs' : s = ⟨1, true, leafR, vr, ve⟩ := by simpa using hs.symm
    rw [hR, hs']
    exact ⟨rfl, hc⟩
  · exact absurd (show atC (ss10 vr ve) 1 1 = 0 by rfl) h
set_option maxHeartbeats 8000000 in
theorem awake10_ok (w : World) : Calls Tryd.prog 19 #[] w fun e w' => e = .returned (.bool true) ∧ Fr none_ w w' := by
  go_enter Tryd.func19, Tryd.ntmps19
  go_wp2_with fail
  refine (limits10_ok w).mono ?_
  rintro e w0 ⟨rfl, hf0⟩
  have F0 := hid_ hf0
  clear hf0
  go_wp2_with fail
  refine (memNew_ok lim10 _ lim10_right).mono ?_
  rintro e w1 ⟨m, a, G, vr, ve, T, H, C, M, rfl, hM, hf1, hm1, hC1, hM1, hG1, hH1⟩
  obtain ⟨x, hx⟩ : ∃ x : St, x = ⟨a, G, ss10 vr ve, T, H, ps10, C, M, 1, 0, .map []⟩ := ⟨_, rfl⟩
  have HX := hid_ hx
  have M1 : Hid (Mm w1 m 0 lim10 x) := hid_ (by rw [hx]; exact hM)
  have HN : Hid (∀ i, mall m x i → w.heap.size ≤ i) := hid_ (by
    have h0 := F0.out.size
    subst hx
    rintro i (e | e | e | e | e) <;> subst e <;> omega)
  have F1 := hid_ (F0.out.then_none hf1)
  clear hM hf1 hx hm1 hC1 hM1 hG1 hH1
  go_wp2_with fail
  refine (ldBegin_ok 0 w1).mono ?_
  rintro e w2 ⟨rfl, hL, hf2⟩
  have L2 := hid_ hL
  have M2 := hid_ (M1.out.keep hf2)
  have HB := hid_ M1.out.mall_lt
  have F2 := hid_ (F1.out.then_none hf2)
  have HW := hid_ F1.out.size
  clear hL hf2 M1
  have HPS : Hid (x.ps = ps10) := hid_ (by rw [HX.out])
  have HSS : Hid (x.ss = ss10 vr ve) := hid_ (by rw [HX.out])
  clear HX
  go_wp2_with fail
  refine (step_first L2.out M2.out HB.out (by omega) (by omega) rfl rfl).mono ?_
  rintro e w3 ⟨s0, g0, c0, v0, hhd, -, hm3, hf3, hcase⟩
  obtain ⟨rfl, rfl, rfl⟩ := head10 (by rw [← HPS.out]; exact hhd)
  obtain ⟨rfl, hL3⟩ : e = .returned (.bool false) ∧ Ldr w1.heap.size w3 w1.heap.size { LdS.new 0 with begun := true, hs := 1, hg := 1, ns := 1, ng := 1 } := by
    rcases hcase with ⟨h, _⟩ | ⟨_, h, _⟩ | ⟨_, _, h1, h2⟩
    · exact absurd rfl h
    · exact absurd h (by decide)
    · exact ⟨h1, h2⟩
  have L3 := hid_ hL3
  have M3 := hid_ hm3
  have F3 : Hid (Fr none_ w w3) := hid_ (F2.out.trans hf3 (fun _ _ => id) (fun i hi e => by
    rcases e with e | e
    · have := HN.out i e; omega
    · have := HW.out; omega))
  clear hhd hcase hL3 hm3 hf3 L2 M2
  go_wp2_with fail
  refine (step_next L3.out M3.out HB.out (by omega) (by omega) rfl rfl (Nat.zero_le _) (Nat.zero_le _)).mono ?_
  rintro e w4 ⟨R, A, c, B, d, kk, v1, hld, -, hm4, hf4, hcase⟩
  obtain ⟨rfl, rfl⟩ := load10 (vr := vr) (ve := ve) (by rw [← HSS.out]; exact hld)
  obtain ⟨A1, c1, B1, d1, rfl, hL4⟩ : ∃ (A1 : Option Addr) (c1 : Nat) (B1 : Option Addr) (d1 : Nat), e = .returned (.bool true) ∧ Ldr w1.heap.size w4 w1.heap.size ⟨0, true, true, 1, 1, 0, 0, A1, c1, [⟨leafR, A, c, B, d⟩], B1, d1, [(1, 1)], .nilIface⟩ := by
    rcases hcase with ⟨h, _⟩ | ⟨_, A1, c1, B1, d1, ov, ve1, h1, h2, h3⟩
    · exact absurd rfl h
    · rcases h3 with ⟨_, _, rfl, rfl⟩ | ⟨h, _⟩ | ⟨h, _⟩
      · exact ⟨A1, c1, B1, d1, h1, h2⟩
      · exact absurd ⟨rfl, rfl⟩ h
      · exact absurd ⟨rfl, rfl⟩ h
  have L4 := hid_ hL4
  have M4 := hid_ hm4
  have F4 : Hid (Fr none_ w w4) := hid_ (F3.out.trans hf4 (fun _ _ => id) (fun i hi e => by
    rcases e with e | e
    · have := HN.out i e; omega
    · have := HW.out; omega))
  clear hld hcase hL4 hm4 hf4 L3 M3
  go_wp2_with fail
  refine (ldPage_made L4.out rfl rfl (fun D hD => by
    obtain rfl : D = ⟨leafR, A, c, B, d⟩ := by simpa using hD
    exact leafR_ok) (show 1 ≤ 400 by omega) (fun D hD => by
    obtain rfl : D = toCh ⟨leafR, A, c, B, d⟩ := by simpa using hD
    exact ⟨SzOk.nil, ⟨Nat.zero_le _, fun p hp => by cases hp⟩, Nat.zero_le _⟩) (fun D hD => by
    obtain rfl : D = toCh ⟨leafR, A, c, B, d⟩ := by simpa using hD
    exact Nat.zero_le _) (show 1 ≤ 5000 by omega)).mono ?_
  rintro e w5 ⟨v, rfl, hmd⟩
  have F5 := hid_ (F4.out.then_none hmd.2)
  have M5 := hid_ (M4.out.keep hmd.2)
  obtain ⟨P, rfl, hpv, hpl, hpu, hll, hlh⟩ : ∃ P : Pz, v = .tuple #[.agg (pzA P), .nilIface] ∧ (pzA P).all (·.oneCell') = true ∧ P.leaf = true ∧ P.lv.unb = true ∧ P.lv.low = nilS ∧ P.lv.high = nilS := by
    rcases hmd.1 with ⟨leaf, lv, iv, A2, c2, B2, d2, C2, x2, D2, y2, h1, h2, h3⟩ | ⟨k, _, h1, _⟩
    · have h4 : some (true, lvZ10, Vw.zero) = some (leaf, lv, iv) := of_leaf10.symm.trans h1
      simp only [Option.some.injEq, Prod.mk.injEq] at h4
      obtain ⟨rfl, rfl, rfl⟩ := h4
      exact ⟨⟨0, 1, 1, C2, 1, x2, .slice D2 1 y2, true, lvZ10, A2, c2, Vw.zero, B2, d2⟩, h2, by simp [Value.oneCell'], rfl, rfl, rfl, rfl⟩
    · exact absurd (of_leaf10.symm.trans h1) (by simp)
  have HPL := hid_ hpl
  have HIN : Hid (SzOk P.low ∧ SzOk P.high ∧ inS P.low P.high P.unb ⟨#[97]⟩ = true) := hid_ (by
    have e1 : P.low = nilS := by unfold Pz.low; rw [hpl, hll]; rfl
    have e2 : P.high = nilS := by unfold Pz.high; rw [hpl, hlh]; rfl
    have e3 : P.unb = true := by unfold Pz.unb; rw [hpl, hpu]; rfl
    rw [e1, e2, e3]
    exact ⟨SzOk.nil, SzOk.nil, by simp [inS, lt_nil10]⟩)
  have HPU := hid_ hpu
  have HPV := hid_ hpv
  replace M5 : Hid (Mm w5 m 2 lim10 x) := hid_ M5.out
  clear hmd hpv hpl hpu hll hlh M4
  go_upto_region 5 with (refine wpList_store_mid rfl 83 (.tmp 6) (.tmp 23) rfl w5.heap.size 0 (pzA P) rfl rfl (new_there w5 _ pgZ) page_size HPV.out ?_; obtain ⟨w6, hw6⟩ : ∃ z, z = (w5.alloc (.cells pgZ 83)).setCells w5.heap.size 0 (pzA P).toList := ⟨_, rfl⟩; change wpList _ _ _ _ _ ((w5.alloc (.cells pgZ 83)).setCells w5.heap.size 0 (pzA P).toList); rw [← hw6]; have P6 : Hid (Blk w6 w5.heap.size 83 (pzA P) ∧ Fr none_ w5 w6) := hid_ (by rw [hw6]; exact new_copy w5 _ pgZ _ rfl); clear hw6)
  have M6 := hid_ (M5.out.keep P6.out.2)
  have F6 := hid_ (F5.out.then_none P6.out.2)
  have B6 := hid_ P6.out.1
  have p5 : w6.cell? ⟨w5.heap.size, 5, none⟩ = some (.bool true) := by rw [← HPL.out]; exact B6.out.cell' rfl
  have p8 : w6.cell? ⟨w5.heap.size, 8, none⟩ = some (.bool true) := by rw [← HPU.out]; exact B6.out.cell' rfl
  clear P6 M5 F5
  go_wp2_with (first | (refine wpList_load_mid rfl 83 (.tmp 6) rfl w5.heap.size 0 rfl (pzA P).toList _ (Blk.range7 (l := (pzA P).toList) B6.out) Tryd.underlying83 rfl page_size ?_) | (refine wpList_load_midG (by kernel_rfl) 83 (.tmp 6) rfl w5.heap.size 0 rfl (pzA P).toList _ (Blk.range7 (l := (pzA P).toList) B6.out) Tryd.underlying83 rfl page_size ?_))
  refine (phas_ok P ⟨#[97]⟩ w6 HIN.out.1 HIN.out.2.1 (by unfold SzOk; decide)).mono ?_
  rintro e w7 ⟨rfl, hf7⟩
  rw [HIN.out.2.2]
  have M7 := hid_ (M6.out.keep hf7)
  have F7 := hid_ (F6.out.then_none hf7)
  clear hf7 p5 p8
  go_wp2_with fail
  refine (memCount_ok w7 M7.out).mono ?_
  rintro e w8 ⟨rfl, rfl⟩
  go_wp2_with fail
  go_ret
  exact ⟨rfl, F7.out⟩
end Go.Proofs.YtfihfjbakfadkaaDoor
namespace Go.Proofs.YtfihfjbakfadkaaDoor
open Go.RowKit Go.BigFrame
set_option maxRecDepth 100000
set_option linter.unusedVariables false

/-- A record that a loader may fold. -/
structure PRec (R : Rc) : Prop where
  ok : RcOk R
  val : SzOk R.val
  rows : RwsOk R.rows
  zr : R.rows.length ≤ 500
  ze : R.ents.length ≤ 500
/-- Page 0's chain in a memory's parts. -/
structure Pst (x : St) (js : List Nat) (s0 g0 : Int) : Prop where
  pg : x.ps[0]? = some (true, s0, g0)
  li : Links x.ss js s0 g0
  rc : ∀ j ∈ js, PRec (recOf x.ss j)
theorem Pst.head {x : St} {js : List Nat} {s0 g0 a b c : Int} (h : Pst x js s0 g0) (hh : HeadR x.ps 0 a b c) : a = s0 ∧ b = g0 ∧ c = 0 := by
  rcases hh with ⟨i, hi, hp, hc⟩ | ⟨e, _⟩
  · obtain rfl : i = 0 := by omega
    have e4 : (true, s0, g0) = (true, a, b) := Option.some.inj (h.pg.symm.trans hp)
    simp only [Prod.mk.injEq] at e4
    exact ⟨e4.2.1.symm, e4.2.2.symm, hc⟩
  · exact absurd (pgC_used (i := 0) h.pg) e
/-- Alloc failed, or what it put hangs on no page yet. -/
theorem Pst.alloc {x : St} {js : List Nat} {s0 g0 sl gn c last : Int} {R : Rc} {ss' : List Sl} (h : Pst x js s0 g0) (ha : AllocR last x.ss R sl gn c ss') : Pst { x with ss := ss' } js s0 g0 := by
  obtain ⟨h1, h2, _⟩ := links_alloc h.li ha
  refine ⟨h.pg, h1, fun j hj => ?_⟩
  have e : recOf ss' j = recOf x.ss j := List.map_inj_left.1 h2 j hj
  show PRec (recOf ss' j)
  rw [e]
  exact h.rc j hj
/-- What was put is the page's head: on the chain that was, or alone. -/
theorem Pst.push {x : St} {js : List Nat} {s0 g0 sl gn last : Int} {R : Rc} {ss' : List Sl} {ps' : List Pg} {ok : Bool} {k : Int} (h : Pst x js s0 g0) (ha : AllocR last x.ss R sl gn 0 ss') (hR : PRec R) (hn : (R.nslot = s0 ∧ R.ngen = g0) ∨ (R.nslot = 0 ∧ R.ngen = 0))
    (hs : SwapR x.ps 0 s0 g0 sl gn ok k ps') : ∃ js', Pst { x with ss := ss', ps := ps' } js' sl gn ∧ js' ≠ [] ∧ js'.length ≤ js.length + 1 := by
  have hl : 0 < x.ps.length := (List.getElem?_eq_some_iff.1 h.pg).1
  have hp : ps' = x.ps.set 0 (true, sl, gn) := by
    rcases hs with ⟨i, s, g, hi, hpi, _, _, e⟩ | ⟨e, _⟩
    · obtain rfl : i = 0 := by omega
      have e4 : (true, s0, g0) = (true, s, g) := Option.some.inj (h.pg.symm.trans hpi)
      simp only [Prod.mk.injEq] at e4
      obtain ⟨_, rfl, rfl⟩ := e4
      rw [e]
      unfold swapPs
      rw [if_pos ⟨rfl, rfl⟩]
    · exact absurd (pgC_used (i := 0) h.pg) e
  have hp0 : ps'[0]? = some (true, sl, gn) := by rw [hp, List.getElem?_set_self hl]
  rcases hn with hn | hn
  · obtain ⟨i, h1, h2, h3, _⟩ := links_push h.li ha hn
    refine ⟨i :: js, ⟨hp0, h1, fun j hj => ?_⟩, by simp, by simp⟩
    rcases List.mem_cons.1 hj with rfl | hj
    · show PRec (recOf ss' j)
      rw [h2]
      exact hR
    · have e : recOf ss' j = recOf x.ss j := List.map_inj_left.1 h3 j hj
      show PRec (recOf ss' j)
      rw [e]
      exact h.rc j hj
  · obtain ⟨i, h1, h2, _, _⟩ := links_push (js := []) (s := 0) (g := 0) ⟨rfl, rfl⟩ ha hn
    refine ⟨[i], ⟨hp0, h1, fun j hj => ?_⟩, by simp, by simp⟩
    obtain rfl : j = i := by simpa using hj
    show PRec (recOf ss' j)
    rw [h2]
    exact hR
/-- A new memory's page 0. -/
theorem pst_new (vr ve : Value) (a G T H C M : Nat) : Pst ⟨a, G, ss10 vr ve, T, H, ps10, C, M, 1, 0, .map []⟩ [0] 1 1 :=
  ⟨rfl, ⟨rfl, ⟨1, true, leafR, vr, ve⟩, rfl, rfl, rfl, rfl, rfl⟩, fun j hj => by
    obtain rfl : j = 0 := by simpa using hj
    exact ⟨leafR_ok, SzOk.nil, ⟨Nat.zero_le _, fun p hp => by cases hp⟩, Nat.zero_le _, Nat.zero_le _⟩⟩
/-- A loader that is over has the whole chain. -/
theorem LdPh.done {ss : List Sl} {js : List Nat} {n s0 g0 : Int} {s : LdS} (h : LdPh ss js n s0 g0 (js.length + 1) s) : s.over = true ∧ s.ve = .nilIface ∧ s.hs = s0 ∧ s.hg = g0 ∧ s.L.map (·.R) = js.map (recOf ss) ∧ s.refs = js.map (refOf ss) := by
  have h1 := h.ls
  have h2 := h.rs
  simp only [Nat.add_sub_cancel, List.take_length] at h1 h2
  exact ⟨by rw [h.ov]; simp, h.ve, (h.hd (by omega)).1, (h.hd (by omega)).2, h1, h2⟩
theorem LdPh.recs {ss : List Sl} {js : List Nat} {n s0 g0 : Int} {p : Nat} {s : LdS} (h : LdPh ss js n s0 g0 p s) (hr : ∀ j ∈ js, PRec (recOf ss j)) : ∀ C ∈ s.L, PRec C.R := fun C hC => by
  have hm : C.R ∈ s.L.map (·.R) := List.mem_map.2 ⟨C, hC, rfl⟩
  rw [h.ls] at hm
  obtain ⟨j, hj, e⟩ := List.mem_map.1 hm
  rw [← e]
  exact hr j (List.mem_of_mem_take hj)
/-- Two loaders of one chain made the same page, or tell the same code. -/
theorem made_two {b1 b2 : Nat} {s t : LdS} {w1 w1' w2 w2' : World} {v1 v2 : Value} (h1 : LdMade b1 s w1 v1 w1') (h2 : LdMade b2 t w2 v2 w2') (hL : s.L.map (·.R) = t.L.map (·.R)) :
    (∃ leaf lv iv A c B d C x D y A' c' B' d' C' x' D' y',
      v1 = .tuple #[.agg (pgA s.n s.hs s.hg (.slice C s.L.length x) (.slice D s.refs.length y) leaf lv (.slice A lv.rows.length c) iv (.slice B iv.ents.length d)), .nilIface] ∧ PgIn b1 w1' (s.L.map (·.R)) s.refs lv iv A c B d C x D y ∧
      v2 = .tuple #[.agg (pgA t.n t.hs t.hg (.slice C' t.L.length x') (.slice D' t.refs.length y') leaf lv (.slice A' lv.rows.length c') iv (.slice B' iv.ents.length d')), .nilIface] ∧ PgIn b2 w2' (t.L.map (·.R)) t.refs lv iv A' c' B' d' C' x' D' y') ∨
    (∃ k : Int, k ≠ 0 ∧ v1 = .tuple #[.agg pgZ, errV k] ∧ v2 = .tuple #[.agg pgZ, errV k]) := by
  rcases h1.1 with ⟨leaf, lv, iv, A, c, B, d, C, x, D, y, e1, e2, e3⟩ | ⟨k, hk, e1, e2⟩
  · rcases h2.1 with ⟨leaf2, lv2, iv2, A', c', B', d', C', x', D', y', f1, f2, f3⟩ | ⟨k2, _, f1, _⟩
    · rw [← hL, e1] at f1
      simp only [Option.some.injEq, Prod.mk.injEq] at f1
      obtain ⟨rfl, rfl, rfl⟩ := f1
      exact .inl ⟨leaf, lv, iv, A, c, B, d, C, x, D, y, A', c', B', d', C', x', D', y', e2, e3, f2, f3⟩
    · rw [← hL, e1] at f1; cases f1
  · rcases h2.1 with ⟨_, _, _, _, _, _, _, _, _, _, _, f1, _⟩ | ⟨k2, hk2, f1, f2⟩
    · rw [← hL, e1] at f1; cases f1
    · have hk2' : CodeOf (s.L.map (·.R)) k2 := by rw [hL]; exact hk2
      obtain rfl := hk.uniq hk2'
      exact .inr ⟨k, hk.pos, e2, f2⟩
end Go.Proofs.YtfihfjbakfadkaaDoor
namespace Go.Proofs.YtfihfjbakfadkaaDoor
open Go.RowKit Go.BigFrame
set_option maxRecDepth 100000
set_option linter.unusedVariables false

/-- Two loaders of page 0, whose chain is js. -/
structure Tw (b0 : Nat) (w : World) (m : Nat) (k : Int) (l : Lm) (x : St) (js : List Nat) (s0 g0 : Int) (ga gb p q : Nat) (s t : LdS) : Prop where
  mm : Mm w m k l x
  a : Ldr b0 w ga s
  b : Ldr b0 w gb t
  pa : LdPh x.ss js 0 s0 g0 p s
  pb : LdPh x.ss js 0 s0 g0 q t
  sep : Sep s t
  ne : ga ≠ gb
theorem Tw.swap {b0 : Nat} {w : World} {m : Nat} {k : Int} {l : Lm} {x : St} {js : List Nat} {s0 g0 : Int} {ga gb p q : Nat} {s t : LdS} (h : Tw b0 w m k l x js s0 g0 ga gb p q s t) : Tw b0 w m k l x js s0 g0 gb ga q p t s :=
  ⟨h.mm, h.b, h.a, h.pb, h.pa, h.sep.symm, Ne.symm h.ne⟩
theorem Tw.keep {b0 : Nat} {w w' : World} {m : Nat} {k : Int} {l : Lm} {x : St} {js : List Nat} {s0 g0 : Int} {ga gb p q : Nat} {s t : LdS} (h : Tw b0 w m k l x js s0 g0 ga gb p q s t) (hf : Fr none_ w w') : Tw b0 w' m k l x js s0 g0 ga gb p q s t :=
  ⟨h.mm.keep hf, h.a.keep hf, h.b.keep hf, h.pa, h.pb, h.sep, h.ne⟩
/-- What page 0 is told to hang on. -/
structure On (x : St) (l : Lm) (js : List Nat) (s0 g0 : Int) : Prop where
  p : Pst x js s0 g0
  ne : js ≠ []
  ls : js.length ≤ l.s
  l4 : js.length ≤ 4000
/-- A step turns no block of pointers. -/
theorem Ldr.nptr {b0 g m : Nat} {k : Int} {l : Lm} {x : St} {w : World} {s : LdS} {b : Nat} {cs : Array Value} (h : Ldr b0 w g s) (hM : Mm w m k l x) (hb : Blk w b 74 cs) : ¬ lown m x g s b := by
  obtain ⟨cs, hG, _⟩ := hM.ar.hG
  obtain ⟨cap, cur, hT0, hH, _⟩ := id hM.tb
  rintro ((e | e | e | e | e) | e | e | e)
  · exact Blk.ne_ hb hM.b (by decide) e
  · exact Blk.ne_ hb hG (by decide) e
  · exact Blk.ne_ hb hH (by decide) e
  · exact Blk.ne_ hb hM.ck.hC (by decide) e
  · exact hM.ck.mne hb e.symm
  · exact Blk.ne_ hb h.b (by decide) e
  · exact own_blk_ne h.l hb (by decide) e
  · exact own_blk_ne h.r hb (by decide) e
set_option maxHeartbeats 2000000 in
theorem tw_step {b0 : Nat} {w : World} {m : Nat} {k : Int} {l : Lm} {x : St} {js : List Nat} {s0 g0 : Int} {ga gb p q : Nat} {s t : LdS} (h : Tw b0 w m k l x js s0 g0 ga gb p q s t) (hb : ∀ i, mall m x i → i < b0) (h0 : 0 ≤ k) (h1 : k ≤ 100000) (ho : On x l js s0 g0) :
    Calls Tryd.prog 23 #[.pointer (some ⟨ga, 0, none⟩), .pointer (some ⟨m, 0, none⟩)] w fun e w' => ∃ s' k', e = .returned (.bool (decide (js.length ≤ p))) ∧ Tw b0 w' m k' l x js s0 g0 ga gb (min (p + 1) (js.length + 1)) q s' t ∧ k' = k + ((min (p + 1) (js.length + 1) : Nat) : Int) - (p : Int) ∧ Fr (Go.Proofs.YtfihfjbakfadkaaDoor.lall m x b0) w w' ∧ ∀ b cs, Blk w b 74 cs → Blk w' b 74 cs := by
  by_cases hp : p ≤ js.length
  · refine (step_ph h.a h.mm hb h0 h1 h.pa hp ⟨0, rfl, ho.p.pg⟩ ho.p.li ho.ne ho.ls ho.l4).mono ?_
    rintro e w' ⟨s', rfl, ph, hl, hmm, hf, how⟩
    refine ⟨s', k + 1, ?_, ⟨hmm, hl, h.b.beside h.a hf hb (Ne.symm h.ne) h.sep.symm, ?_, h.pb, (h.sep.symm.step h.b how).symm, h.ne⟩, by rw [Nat.min_eq_left (by omega)]; push_cast; omega, hf.mono (fun i _ e => h.a.lall i e), fun b cs hbb => hbb.fr hf (h.a.nptr h.mm hbb)⟩
    · by_cases he : p = js.length
      · rw [decide_eq_true he, decide_eq_true (by omega)]
      · rw [decide_eq_false he, decide_eq_false (by omega)]
    · rw [Nat.min_eq_left (by omega)]; exact ph
  · have hpe : p = js.length + 1 := by have := h.pa.le; omega
    have hov : s.over = true := by rw [h.pa.ov]; exact decide_eq_true hpe
    refine (step_over _ h.a hov).mono ?_
    rintro e w' ⟨rfl, rfl⟩
    refine ⟨s, k, by rw [decide_eq_true (by omega)], ?_, by rw [Nat.min_eq_right (by omega), hpe]; omega, Fr.refl _ _, fun b cs hbb => hbb⟩
    rw [Nat.min_eq_right (by omega), ← hpe]
    exact h
/-- A loader that is over makes the chain's page. -/
theorem ph_page {b0 g : Nat} {w : World} {s : LdS} {ss : List Sl} {js : List Nat} {n s0 g0 : Int} (h : Ldr b0 w g s) (ph : LdPh ss js n s0 g0 (js.length + 1) s) (hr : ∀ j ∈ js, PRec (recOf ss j)) (hl : js.length ≤ 400) :
    Calls Tryd.prog 24 #[.pointer (some ⟨g, 0, none⟩)] w fun e w' => ∃ v, e = .returned v ∧ LdMade w.heap.size s w v w' := by
  obtain ⟨ho, hv, _⟩ := ph.done
  have hlen := ph.len
  have hrec := ph.recs hr
  simp only [Nat.add_sub_cancel] at hlen
  refine ldPage_made h ho hv (fun C hC => (hrec C hC).ok) (by omega) (fun D hD => ?_) (fun D hD => ?_) (by omega)
  · obtain ⟨C, hC, rfl⟩ := List.mem_map.1 hD
    exact ⟨(hrec C hC).val, (hrec C hC).rows, (hrec C hC).zr⟩
  · obtain ⟨C, hC, rfl⟩ := List.mem_map.1 hD
    exact (hrec C hC).ze
/-- Chains that were there stand, as they were. -/
def Stand (ss ss' : List Sl) : Prop := ∀ (js : List Nat) (s g : Int), Links ss js s g → Links ss' js s g ∧ js.map (recOf ss') = js.map (recOf ss) ∧ js.map (refOf ss') = js.map (refOf ss)
theorem Stand.refl (ss : List Sl) : Stand ss ss := fun js s g h => ⟨h, rfl, rfl⟩
theorem Stand.trans {a b c : List Sl} (h : Stand a b) (k : Stand b c) : Stand a c := fun js s g hl => by
  obtain ⟨h1, h2, h3⟩ := h js s g hl
  obtain ⟨k1, k2, k3⟩ := k js s g h1
  exact ⟨k1, k2.trans h2, k3.trans h3⟩
theorem Stand.of {last : Int} {ss ss' : List Sl} {R : Rc} {sl gn c : Int} (ha : AllocR last ss R sl gn c ss') : Stand ss ss' := fun js s g h => links_alloc h ha
/-- A record that is put by push. -/
abbrev Rc.hang (R : Rc) (s g : Int) : Rc := { R with nslot := s, ngen := g }
theorem hang_ok {R : Rc} (h : PRec R) (s g : Int) : PRec (R.hang s g) := ⟨⟨h.ok.low, h.ok.high, h.ok.key, h.ok.hkey, h.ok.ents⟩, h.val, h.rows, h.zr, h.ze⟩
/-- The records of an input that is few may be folded. -/
theorem few_prec {w : World} {A : Option Addr} {n : Nat} {L : List Ch} (h : InReads w A n L) (hw : RwIn L) (h7 : FewOk7 L) (h8 : FewOk8 L) : ∀ C ∈ L, PRec C.R := fun C hC => by
  have hr := few_rows h7 hw C hC
  have he := few_ents h8 C hC
  obtain ⟨k, hk⟩ := List.mem_iff_getElem?.1 hC
  obtain ⟨_, _, _, _, _, hi⟩ := h.at_ hk
  exact ⟨⟨hi.low, hi.high, hi.key, hi.hkey, ⟨by omega, hi.ents⟩⟩, hr.1, hr.2.1, hr.2.2, by omega⟩
end Go.Proofs.YtfihfjbakfadkaaDoor
namespace Go.Proofs.YtfihfjbakfadkaaDoor
open Go.RowKit
set_option maxRecDepth 100000
set_option linter.unusedVariables false

structure Sm4 (w w' : World) (R : Rc) (A B A2 B2 : Option Addr) (c d c2 d2 : Nat) : Prop where
  b0 : Blk w' w.heap.size 41 (recA R (.slice A R.rows.length c) (.slice B R.ents.length d))
  b1 : Blk w' (w.heap.size + 1) 41 (recA R (.slice A2 R.rows.length c2) (.slice B2 R.ents.length d2))
  rd : RecReads w' R A B
  rd2 : RecReads w' R A2 B2
  fr : Fr none_ w w'
theorem Sm4.keep {w w' w2 : World} {R : Rc} {A B A2 B2 : Option Addr} {c d c2 d2 : Nat} (h : Sm4 w w' R A B A2 B2 c d c2 d2) (hf : Fr none_ w' w2) : Sm4 w w2 R A B A2 B2 c d c2 d2 :=
  ⟨h.b0.fr hf id, h.b1.fr hf id, h.rd.keep hf, h.rd2.keep hf, h.fr.then_none hf⟩

set_option maxHeartbeats 4000000 in
theorem same4_ok (R : Rc) (A : Option Addr) (c : Nat) (B : Option Addr) (d : Nat) (A2 : Option Addr) (c2 : Nat) (B2 : Option Addr) (d2 : Nat) (w : World) (h : RecReads w R A B) (h2 : RecReads w R A2 B2) (hr : R.rows.length ≤ 1000) (he : R.ents.length ≤ 1000) :
    Calls Tryd.prog 26 #[recV R (.slice A R.rows.length c) (.slice B R.ents.length d), recV R (.slice A2 R.rows.length c2) (.slice B2 R.ents.length d2)] w fun e w' => e = .returned (.bool true) ∧ Fr none_ w w' := by
  obtain ⟨w0, hw0⟩ : ∃ w0, w0 = (w.alloc (recB R (.slice A R.rows.length c) (.slice B R.ents.length d))).alloc (recB R (.slice A2 R.rows.length c2) (.slice B2 R.ents.length d2)) := ⟨_, rfl⟩
  have M0 : Hid (Sm4 w w0 R A B A2 B2 c d c2 d2) := by
    have f0 : Fr none_ w w0 := by rw [hw0]; exact ((Fr.refl none_ w).alloc _).alloc _
    have k1 := (Blk.new (w.alloc (recB R (.slice A R.rows.length c) (.slice B R.ents.length d))) 41 (recA R (.slice A2 R.rows.length c2) (.slice B2 R.ents.length d2)))
    rw [World.size_alloc] at k1
    exact hid_ ⟨by rw [hw0]; exact (Blk.new w _ _).alloc _, by rw [hw0]; exact k1, h.keep f0, h2.keep f0, f0⟩
  clear h h2
  go_enter Tryd.func26, Tryd.ntmps26
  go_wp2_with fail
  change Code.wp _ _ _ _ ((w.alloc (recB R (.slice A R.rows.length c) (.slice B R.ents.length d))).alloc (recB R (.slice A2 R.rows.length c2) (.slice B2 R.ents.length d2)))
  rw [← hw0]
  clear hw0
  go_loopw [5] (fun i wr => ∃ k : Nat, k ≤ R.rows.length ∧ i = .int .i64 k ∧ Fr none_ w0 wr) (fun i _ => R.rows.length - (intOf i).toNat)
  case atStart => exact ⟨0, Nat.zero_le _, rfl, Fr.refl _ _⟩
  case round =>
    obtain ⟨k, hk, rfl, hF⟩ := hrel
    have F := hid_ hF
    have M := hid_ (M0.out.keep hF)
    clear hF
    have a0 : wr.cell? ⟨w.heap.size, 5, none⟩ = some (.slice A R.rows.length c) := M.out.b0.cell' rfl
    have a1 : wr.cell? ⟨w.heap.size + 1, 5, none⟩ = some (.slice A2 R.rows.length c2) := M.out.b1.cell' rfl
    by_cases hlt : k < R.rows.length
    · obtain ⟨p, hp⟩ : ∃ p, R.rows[k]? = some p := ⟨_, List.getElem?_eq_getElem hlt⟩
      obtain ⟨b1, o1, rfl, hb1, d0, d1⟩ := rw_at M.out.rd.r hp
      obtain ⟨b2, o2, rfl, hb2, e0, e1⟩ := rw_at M.out.rd2.r hp
      have hi0 : (0 : Int) ≤ (k : Int) := Int.natCast_nonneg _
      have hi1 : (k : Int) < (R.rows.length : Int) := by omega
      clear hp
      go_wp2_with fail
      go_quiet (fail)
      have FQ := hid_ (F.out.drewN nq)
      clear d0 d1 e0 e1 a0 a1
      go_wp2
      go_roundw
      case rel => exact ⟨k + 1, by omega, by go_num, FQ.out⟩
      case measure => simp [intOf]; omega
    · obtain rfl : k = R.rows.length := by omega
      have a2 : wr.cell? ⟨w.heap.size, 6, none⟩ = some (.slice B R.ents.length d) := M.out.b0.cell' rfl
      have a3 : wr.cell? ⟨w.heap.size + 1, 6, none⟩ = some (.slice B2 R.ents.length d2) := M.out.b1.cell' rfl
      go_wp2_with fail
      clear a0 a1 a2 a3 hlt hk
      go_loopw [6] (fun i wx => ∃ k : Nat, k ≤ R.ents.length ∧ i = .int .i64 k ∧ Fr none_ wr wx) (fun i _ => R.ents.length - (intOf i).toNat)
      case atStart => exact ⟨0, Nat.zero_le _, rfl, Fr.refl _ _⟩
      case round =>
        obtain ⟨k, hk, rfl, hF⟩ := hrel
        obtain ⟨wx, rfl⟩ : ∃ wx : World, wx = wr := ⟨_, rfl⟩
        have F2 := hid_ hF
        have M2 := hid_ (M.out.keep hF)
        clear hF
        have a0 : wx.cell? ⟨w.heap.size, 6, none⟩ = some (.slice B R.ents.length d) := M2.out.b0.cell' rfl
        have a1 : wx.cell? ⟨w.heap.size + 1, 6, none⟩ = some (.slice B2 R.ents.length d2) := M2.out.b1.cell' rfl
        by_cases hlt : k < R.ents.length
        · obtain ⟨p, hp⟩ : ∃ p, R.ents[k]? = some p := ⟨_, List.getElem?_eq_getElem hlt⟩
          obtain ⟨b1, o1, rfl, hb1, d0, d1⟩ := et_at M2.out.rd.e hp
          obtain ⟨b2, o2, rfl, hb2, e0, e1⟩ := et_at M2.out.rd2.e hp
          have hi0 : (0 : Int) ≤ (k : Int) := Int.natCast_nonneg _
          have hi1 : (k : Int) < (R.ents.length : Int) := by omega
          clear hp
          go_wp2_with fail
          go_quiet (fail)
          have FQ := hid_ (F2.out.drewN nq)
          clear d0 d1 e0 e1 a0 a1
          go_wp2
          go_roundw
          case rel => exact ⟨k + 1, by omega, by go_num, FQ.out⟩
          case measure => simp [intOf]; omega
        · obtain rfl : k = R.ents.length := by omega
          clear a0 a1
          have x0 : wx.cell? ⟨w.heap.size, 0, none⟩ = some (.int .i64 R.kind) := M2.out.b0.cell' rfl
          have y0 : wx.cell? ⟨w.heap.size + 1, 0, none⟩ = some (.int .i64 R.kind) := M2.out.b1.cell' rfl
          have x1 : wx.cell? ⟨w.heap.size, 1, none⟩ = some (.string R.low) := M2.out.b0.cell' rfl
          have y1 : wx.cell? ⟨w.heap.size + 1, 1, none⟩ = some (.string R.low) := M2.out.b1.cell' rfl
          have x2 : wx.cell? ⟨w.heap.size, 2, none⟩ = some (.string R.high) := M2.out.b0.cell' rfl
          have y2 : wx.cell? ⟨w.heap.size + 1, 2, none⟩ = some (.string R.high) := M2.out.b1.cell' rfl
          have x3 : wx.cell? ⟨w.heap.size, 3, none⟩ = some (.bool R.unb) := M2.out.b0.cell' rfl
          have y3 : wx.cell? ⟨w.heap.size + 1, 3, none⟩ = some (.bool R.unb) := M2.out.b1.cell' rfl
          have x4 : wx.cell? ⟨w.heap.size, 4, none⟩ = some (.int .i64 R.right) := M2.out.b0.cell' rfl
          have y4 : wx.cell? ⟨w.heap.size + 1, 4, none⟩ = some (.int .i64 R.right) := M2.out.b1.cell' rfl
          have x5 : wx.cell? ⟨w.heap.size, 5, none⟩ = some (.slice A R.rows.length c) := M2.out.b0.cell' rfl
          have y5 : wx.cell? ⟨w.heap.size + 1, 5, none⟩ = some (.slice A2 R.rows.length c2) := M2.out.b1.cell' rfl
          have x6 : wx.cell? ⟨w.heap.size, 6, none⟩ = some (.slice B R.ents.length d) := M2.out.b0.cell' rfl
          have y6 : wx.cell? ⟨w.heap.size + 1, 6, none⟩ = some (.slice B2 R.ents.length d2) := M2.out.b1.cell' rfl
          have x7 : wx.cell? ⟨w.heap.size, 7, none⟩ = some (.string R.key) := M2.out.b0.cell' rfl
          have y7 : wx.cell? ⟨w.heap.size + 1, 7, none⟩ = some (.string R.key) := M2.out.b1.cell' rfl
          have x8 : wx.cell? ⟨w.heap.size, 8, none⟩ = some (.string R.val) := M2.out.b0.cell' rfl
          have y8 : wx.cell? ⟨w.heap.size + 1, 8, none⟩ = some (.string R.val) := M2.out.b1.cell' rfl
          have x9 : wx.cell? ⟨w.heap.size, 9, none⟩ = some (.int .i64 R.page) := M2.out.b0.cell' rfl
          have y9 : wx.cell? ⟨w.heap.size + 1, 9, none⟩ = some (.int .i64 R.page) := M2.out.b1.cell' rfl
          have x10 : wx.cell? ⟨w.heap.size, 10, none⟩ = some (.int .i64 R.hpage) := M2.out.b0.cell' rfl
          have y10 : wx.cell? ⟨w.heap.size + 1, 10, none⟩ = some (.int .i64 R.hpage) := M2.out.b1.cell' rfl
          have x11 : wx.cell? ⟨w.heap.size, 11, none⟩ = some (.int .i64 R.hleft) := M2.out.b0.cell' rfl
          have y11 : wx.cell? ⟨w.heap.size + 1, 11, none⟩ = some (.int .i64 R.hleft) := M2.out.b1.cell' rfl
          have x12 : wx.cell? ⟨w.heap.size, 12, none⟩ = some (.string R.hkey) := M2.out.b0.cell' rfl
          have y12 : wx.cell? ⟨w.heap.size + 1, 12, none⟩ = some (.string R.hkey) := M2.out.b1.cell' rfl
          have x13 : wx.cell? ⟨w.heap.size, 13, none⟩ = some (.int .i64 R.nslot) := M2.out.b0.cell' rfl
          have y13 : wx.cell? ⟨w.heap.size + 1, 13, none⟩ = some (.int .i64 R.nslot) := M2.out.b1.cell' rfl
          have x14 : wx.cell? ⟨w.heap.size, 14, none⟩ = some (.int .i64 R.ngen) := M2.out.b0.cell' rfl
          have y14 : wx.cell? ⟨w.heap.size + 1, 14, none⟩ = some (.int .i64 R.ngen) := M2.out.b1.cell' rfl
          go_wp2
          go_ret
          exact ⟨rfl, M2.out.fr⟩
end Go.Proofs.YtfihfjbakfadkaaDoor
namespace Go.Proofs.YtfihfjbakfadkaaDoor
open Go.RowKit Go.BigFrame
set_option maxRecDepth 100000
set_option linter.unusedVariables false
theorem rpFlat_get10 : ∀ (X : List (Int × Int)) (k : Nat) (p : Int × Int), X[k]? = some p → (rpFlat X)[k * 2]? = some (.int .i64 p.1) ∧ (rpFlat X)[k * 2 + 1]? = some (.int .i64 p.2)
  | [], k, p, h => by simp at h
  | q :: X, 0, p, h => by
    obtain rfl : q = p := by simpa using h
    exact ⟨rfl, rfl⟩
  | q :: X, k + 1, p, h => by
    have := rpFlat_get10 X k p (by simpa using h)
    have e : ∀ j, (rpFlat (q :: X))[j + 2]? = (rpFlat X)[j]? := fun j => rfl
    exact ⟨by rw [show (k + 1) * 2 = k * 2 + 2 by omega, e]; exact this.1, by rw [show (k + 1) * 2 + 1 = k * 2 + 1 + 2 by omega, e]; exact this.2⟩
theorem rp_at10 {w : World} {A : Option Addr} {X : List (Int × Int)} (h : Reads w 2 A X.length (rpFlat X)) {k : Nat} {p : Int × Int} (hp : X[k]? = some p) : ∃ b off, A = some ⟨b, off, none⟩ ∧ b < w.heap.size ∧ w.cell? ⟨b, off + k * 2, none⟩ = some (.int .i64 p.1) ∧ w.cell? ⟨b, off + k * 2 + 1, none⟩ = some (.int .i64 p.2) := by
  obtain ⟨b, off, e, hb, hc⟩ := reads_lit h (by decide) (by have := (List.getElem?_eq_some_iff.1 hp).1; omega)
  have := rpFlat_get10 X k p hp
  exact ⟨b, off, e, hb, hc _ _ this.1, by have := hc _ _ this.2; rwa [← Nat.add_assoc] at this⟩
set_option maxHeartbeats 4000000 in
theorem sameRefs10_ok (X : List (Int × Int)) (A B : Option Addr) (c d : Nat) (w : World) (hl : X.length ≤ 5000) (h1 : Reads w 2 A X.length (rpFlat X)) (h2 : Reads w 2 B X.length (rpFlat X)) : Calls Tryd.prog 16 #[.slice A X.length c, .slice B X.length d] w fun e w' => e = .returned (.bool true) ∧ Fr none_ w w' := by
  have H1 := hid_ h1
  have H2 := hid_ h2
  clear h1 h2
  go_enter Tryd.func16, Tryd.ntmps16
  go_wp2_with fail
  go_loopw [5] (fun i wr => ∃ k : Nat, k ≤ X.length ∧ i = .int .i64 k ∧ Fr none_ w wr) (fun i _ => X.length - (intOf i).toNat)
  case atStart => exact ⟨0, Nat.zero_le _, rfl, Fr.refl _ _⟩
  case round =>
    obtain ⟨k, hk, rfl, hfr⟩ := hrel
    have FR := hid_ hfr
    have hi0 : (0 : Int) ≤ (k : Int) := Int.natCast_nonneg _
    clear hfr
    by_cases hlt : k < X.length
    · obtain ⟨p, hp⟩ : ∃ p, X[k]? = some p := ⟨_, List.getElem?_eq_getElem hlt⟩
      obtain ⟨b1, o1, rfl, hb1, x0, x1⟩ := rp_at10 (H1.out.none_fr FR.out) hp
      obtain ⟨b2, o2, rfl, hb2, y0, y1⟩ := rp_at10 (H2.out.none_fr FR.out) hp
      have hi1 : (k : Int) < (X.length : Int) := by omega
      have hq : ∀ w', (binOp .neq 25 (.agg #[.int .i64 p.1, .int .i64 p.2]) (.agg #[.int .i64 p.1, .int .i64 p.2])).run Tryd.prog w' = .ok (.bool false) w' := fun w' => by rw [neq_ref]; simp
      clear hp
      go_wp2_with fail
      go_quiet (fail)
      go_wp2_with fail
      go_roundw
      case rel => exact ⟨k + 1, by omega, by go_num, by repeat (first | exact FR.out | apply Fr.drewN | apply Fr.drew)⟩
      case measure => simp [intOf]; omega
    · have hi1 : ¬ (k : Int) < (X.length : Int) := by omega
      go_wp2_with fail
      go_ret
      exact ⟨rfl, FR.out⟩
end Go.Proofs.YtfihfjbakfadkaaDoor
namespace Go.Proofs.YtfihfjbakfadkaaDoor
open Go.RowKit Go.BigFrame
set_option maxRecDepth 100000
set_option linter.unusedVariables false

/-- Do the keys rise? -/
def Rising (L : List Et) : Prop := ∀ (j : Nat) (p q : Et), L[j]? = some p → L[j + 1]? = some q → ltS p.1 q.1 = true
theorem Rising.tail {q : Et} {t : List Et} (h : Rising (q :: t)) : Rising t := fun j p r hp hr => h (j + 1) p r (by simpa using hp) (by simpa using hr)
theorem Rising.behind {q : Et} : ∀ {t : List Et}, Rising (q :: t) → ∀ p ∈ t, ltS q.1 p.1 = true
  | [], _, p, hp => by cases hp
  | r :: t, h, p, hp => by
    have h0 : ltS q.1 r.1 = true := h 0 q r rfl rfl
    rcases List.mem_cons.1 hp with rfl | hp
    · exact h0
    · exact ltS_trans h0 (Rising.behind h.tail p hp)
end Go.Proofs.YtfihfjbakfadkaaDoor
namespace Go.Proofs.YtfihfjbakfadkaaDoor
open Go.RowKit
set_option linter.unusedVariables false

def Ris (L : List Et) : Prop := ∀ (i : Nat) (p q : Et), L[i]? = some p → L[i + 1]? = some q → ltS p.1 q.1 = true
theorem lt_of_some {α : Type} {L : List α} {i : Nat} {p : α} (h : L[i]? = some p) : i < L.length := (List.getElem?_eq_some_iff.1 h).1
theorem some_of_lt {α : Type} {L : List α} {i : Nat} (h : i < L.length) : ∃ p, L[i]? = some p := ⟨_, List.getElem?_eq_getElem h⟩
theorem Ris.lt {L : List Et} (h : Ris L) : ∀ {i j : Nat} {p q : Et}, i < j → L[i]? = some p → L[j]? = some q → ltS p.1 q.1 = true := by
  intro i j p q hij hp hq
  induction j generalizing q with
  | zero => omega
  | succ j ih =>
    obtain ⟨r, hr⟩ := some_of_lt (L := L) (i := j) (by have := lt_of_some hq; omega)
    have h2 := h j r q hr hq
    rcases Nat.lt_or_ge i j with h1 | h1
    · exact ltS_trans (ih h1 hr) h2
    · obtain rfl : i = j := by omega
      rw [hp] at hr
      cases hr
      exact h2
theorem plN_uniq {L : List Et} {key : ByteArray} {n : Nat} (h1 : ∀ (i : Nat) (p : Et), i < n → L[i]? = some p → ltS p.1 key = true) (h2 : n = L.length ∨ ∃ p, L[n]? = some p ∧ ltS p.1 key = false) : plN L key = n := by
  rcases Nat.lt_trichotomy (plN L key) n with h | h | h
  · obtain ⟨p, hp⟩ := some_of_lt (L := L) (i := plN L key) (by
      rcases h2 with e | ⟨p, hp, _⟩
      · omega
      · have := lt_of_some hp; omega)
    have a := h1 _ _ h hp
    rw [plN_at hp] at a
    cases a
  · exact h
  · rcases h2 with e | ⟨p, hp, hn⟩
    · have := plN_le L key; omega
    · have := plN_in h hp
      rw [hn] at this
      cases this
theorem Ris.at {L : List Et} (h : Ris L) {i : Nat} {p : Et} (hp : L[i]? = some p) : plN L p.1 = i ∧ atB L p.1 = true := by
  have e : plN L p.1 = i := plN_uniq (fun j q hj hq => h.lt hj hq hp) (.inr ⟨p, hp, ltS_irrefl _⟩)
  exact ⟨e, by rw [atB_some (p := p) (by rw [e]; exact hp)]; exact sEq_self _⟩
/-- No entry of just that key: all from its place on are behind it. -/
theorem Ris.behind {L : List Et} (h : Ris L) {key : ByteArray} (hn : atB L key = false) {j : Nat} {q : Et} (hj : plN L key ≤ j) (hq : L[j]? = some q) : ltS key q.1 = true := by
  obtain ⟨p, hp⟩ := some_of_lt (L := L) (i := plN L key) (by have := lt_of_some hq; omega)
  have h1 := plN_at hp
  have h2 : p.1 ≠ key := fun e => by
    rw [atB_some hp, sEq_iff.2 e] at hn
    cases hn
  have h3 : ltS key p.1 = true := by
    rcases ltS_total p.1 key with h | h | h
    · rw [h1] at h; cases h
    · exact absurd h h2
    · exact h
  rcases Nat.lt_or_ge (plN L key) j with hl | hl
  · exact ltS_trans h3 (h.lt hl hp hq)
  · obtain rfl : plN L key = j := by omega
    rw [hp] at hq
    cases hq
    exact h3

theorem putL_get {L : List Et} {n : Nat} {p : Et} (hn : n ≤ L.length) (i : Nat) : (putL L n p)[i]? = if i < n then L[i]? else if i = n then some p else L[i - 1]? := by
  unfold putL
  by_cases h1 : i < n
  · rw [if_pos h1, List.append_assoc, List.getElem?_append_left (by simp; omega), List.getElem?_take, if_pos h1]
  · rw [if_neg h1]
    by_cases h2 : i = n
    · subst h2
      rw [if_pos rfl, List.append_assoc, List.getElem?_append_right (by simp; omega)]
      simp [Nat.min_eq_left hn]
    · rw [if_neg h2, List.getElem?_append_right (by simp; omega), List.getElem?_drop]
      congr 1
      simp
      omega
def cutL (L : List Et) (n : Nat) : List Et := L.take n ++ L.drop (n + 1)
theorem cutL_get {L : List Et} {n : Nat} (hn : n ≤ L.length) (i : Nat) : (cutL L n)[i]? = if i < n then L[i]? else L[i + 1]? := by
  unfold cutL
  by_cases h1 : i < n
  · rw [if_pos h1, List.getElem?_append_left (by simp; omega), List.getElem?_take, if_pos h1]
  · rw [if_neg h1, List.getElem?_append_right (by simp; omega), List.getElem?_drop]
    congr 1
    simp
    omega
theorem Ris.put {L : List Et} (h : Ris L) {key : ByteArray} {pg : Int} (hn : atB L key = false) : Ris (putL L (plN L key) (key, pg)) := by
  intro i p q hp hq
  have hle := plN_le L key
  rw [putL_get hle] at hp hq
  by_cases h1 : i + 1 < plN L key
  · rw [if_pos (by omega)] at hp
    rw [if_pos h1] at hq
    exact h i p q hp hq
  · rw [if_neg h1] at hq
    by_cases h2 : i + 1 = plN L key
    · rw [if_pos h2] at hq
      rw [if_pos (by omega)] at hp
      obtain rfl : (key, pg) = q := Option.some.inj hq
      have h4 : i < plN L key := by omega
      exact plN_in h4 hp
    · rw [if_neg h2] at hq
      rw [if_neg (by omega)] at hp
      have hle2 : plN L key ≤ i := by omega
      by_cases h3 : i = plN L key
      · rw [if_pos h3] at hp
        obtain rfl : (key, pg) = p := Option.some.inj hp
        exact h.behind hn (j := i + 1 - 1) (show plN L key ≤ i + 1 - 1 by rw [Nat.add_sub_cancel]; exact hle2) hq
      · rw [if_neg h3] at hp
        exact h (i - 1) p q hp (by rw [show i - 1 + 1 = i + 1 - 1 by omega]; exact hq)
theorem Ris.cut {L : List Et} (h : Ris L) {n : Nat} (hn : n ≤ L.length) : Ris (cutL L n) := by
  intro i p q hp hq
  rw [cutL_get hn] at hp hq
  by_cases h1 : i + 1 < n
  · rw [if_pos (by omega)] at hp
    rw [if_pos h1] at hq
    exact h i p q hp hq
  · rw [if_neg h1] at hq
    by_cases h2 : i < n
    · rw [if_pos h2] at hp
      exact h.lt (by omega) hp hq
    · rw [if_neg h2] at hp
      exact h (i + 1) p q hp hq
theorem Ris.take {L : List Et} (h : Ris L) (n : Nat) : Ris (L.take n) := by
  intro i p q hp hq
  rw [List.getElem?_take] at hp hq
  split at hp
  · split at hq
    · exact h i p q hp hq
    · cases hq
  · cases hp
theorem Ris.drop {L : List Et} (h : Ris L) (n : Nat) : Ris (L.drop n) := by
  intro i p q hp hq
  rw [List.getElem?_drop] at hp hq
  exact h (n + i) p q hp hq

theorem Sound.rise {V : Vw} (h : Sound V) : Ris V.ents := h.ris
theorem Sound.pos {V : Vw} (h : Sound V) : 0 < V.ents.length := by
  obtain ⟨p, hp, _⟩ := h.head
  exact lt_of_some hp

end Go.Proofs.YtfihfjbakfadkaaDoor
namespace Go.Proofs.YtfihfjbakfadkaaDoor
open Go.RowKit Go.BigFrame
set_option maxRecDepth 100000
set_option linter.unusedVariables false
theorem rec_sz10 : ∀ w, (sizeOf 41).run Tryd.prog w = .ok 15 w := fun w => by kernel_rfl
theorem ex_index15 {oi : Oper} {a : Act} (t e : TypeId) (x y : Operand) (b off n m c : Nat) (ho : oi.op = .indexAddr t x y) (hx : a.eval x = .slice (some ⟨b, off, none⟩) m c) (hy : a.eval y = .int .i64 n) (hu : Tryd.prog.underlying t = some (.slice e)) (hs : ∀ w, (sizeOf e).run Tryd.prog w = .ok 15 w) (hn : n < m) (w : World) :
    (execOp a.eval oi).run Tryd.prog w = .ok (.value (.pointer (some ⟨b, off + n * 15, none⟩))) w := by
  unfold execOp
  simp only [ho, hx, hy, Sem.run_bind, Sem.run_pure]
  have h0 : (0 : Int) ≤ (n : Int) := Int.natCast_nonneg _
  have h1 : (n : Int) < (m : Int) := by omega
  simp [go_sem, hu, hs, h0, h1]
/-- Two rows of records that hold the same. -/
structure SmCh (w : World) (C C2 : Option Addr) (nc : Nat) (L L2 : List Ch) : Prop where
  a : ChReads w C nc L
  b : ChReads w C2 nc L2
  m : L2.map (·.R) = L.map (·.R)
  rows : ∀ D ∈ L, D.R.rows.length ≤ 1000 ∧ D.R.ents.length ≤ 1000
theorem SmCh.keep {w w' : World} {C C2 : Option Addr} {nc : Nat} {L L2 : List Ch} (h : SmCh w C C2 nc L L2) (hf : Fr none_ w w') : SmCh w' C C2 nc L L2 := ⟨h.a.keep hf, h.b.keep hf, h.m, h.rows⟩
theorem SmCh.at_ {w : World} {C C2 : Option Addr} {nc : Nat} {L L2 : List Ch} (h : SmCh w C C2 nc L L2) {k : Nat} (hk : k < nc) : ∃ (R : Rc) (A1 A2 B1 B2 : Option Addr) (c1 c2 d1 d2 : Nat) (b1 o1 b2 o2 : Nat), C = some ⟨b1, o1, none⟩ ∧ C2 = some ⟨b2, o2, none⟩ ∧ w.rangeAt b1 (o1 + k * 15) (recL ⟨R, A1, c1, B1, d1⟩) ∧ w.rangeAt b2 (o2 + k * 15) (recL ⟨R, A2, c2, B2, d2⟩) ∧ RecReads w R A1 B1 ∧ RecReads w R A2 B2 ∧ R.rows.length ≤ 1000 ∧ R.ents.length ≤ 1000 := by
  obtain ⟨E, hE⟩ : ∃ E, L[k]? = some E := ⟨_, List.getElem?_eq_getElem (by rw [h.a.1]; exact hk)⟩
  obtain ⟨G, hG⟩ : ∃ G, L2[k]? = some G := ⟨_, List.getElem?_eq_getElem (by rw [h.b.1]; exact hk)⟩
  have e : G.R = E.R := by
    have h1 := congrArg (fun l => l[k]?) h.m
    simp only [List.getElem?_map, hE, hG, Option.map_some] at h1
    exact Option.some.inj h1
  obtain ⟨b1, o1, e1, _, r1, k1⟩ := h.a.at_ hE
  obtain ⟨b2, o2, e2, _, r2, k2⟩ := h.b.at_ hG
  obtain ⟨RE, A1, c1, B1, d1⟩ := E
  obtain ⟨RG, A2, c2, B2, d2⟩ := G
  have e' : RG = RE := e
  subst e'
  have hz := h.rows _ (List.mem_of_getElem? hE)
  exact ⟨RG, A1, A2, B1, B2, c1, c2, d1, d2, b1, o1, b2, o2, e1, e2, r1, r2, k1.rd, k2.rd, hz.1, hz.2⟩
/-- Two pages' other rows. -/
structure SmPg (w : World) (refs : List (Int × Int)) (lv : Lw) (iv : Vw) (D D2 A A2 B B2 : Option Addr) : Prop where
  r1 : Reads w 2 D refs.length (rpFlat refs)
  r2 : Reads w 2 D2 refs.length (rpFlat refs)
  l1 : Reads w 2 A lv.rows.length (rwFlat lv.rows)
  l2 : Reads w 2 A2 lv.rows.length (rwFlat lv.rows)
  i1 : Reads w 2 B iv.ents.length (etFlat iv.ents)
  i2 : Reads w 2 B2 iv.ents.length (etFlat iv.ents)
  zr : refs.length ≤ 5000
  zl : lv.rows.length ≤ 300000
  zi : iv.ents.length ≤ 2000
theorem SmPg.keep {w w' : World} {refs : List (Int × Int)} {lv : Lw} {iv : Vw} {D D2 A A2 B B2 : Option Addr} (h : SmPg w refs lv iv D D2 A A2 B B2) (hf : Fr none_ w w') : SmPg w' refs lv iv D D2 A A2 B B2 :=
  ⟨h.r1.none_fr hf, h.r2.none_fr hf, h.l1.none_fr hf, h.l2.none_fr hf, h.i1.none_fr hf, h.i2.none_fr hf, h.zr, h.zl, h.zi⟩
end Go.Proofs.YtfihfjbakfadkaaDoor
namespace Go.Proofs.YtfihfjbakfadkaaDoor
open Go.RowKit Go.Extern.Stop Go.Stop Go.Extern
set_option linter.unusedVariables false

def hdl (t : Nat) : Value := .pointer (some ⟨1, t, none⟩)
theorem as_nil (t : Value) (w : World) : Calls Tryd.prog 48 #[.nilIface, t] w fun e w' => e = .returned (.bool false) ∧ w = w' := by
  go_enter Tryd.func48, Tryd.ntmps48
  go_wp2
  go_ret
  exact ⟨rfl, rfl⟩

theorem valueOfT (t : Addr) (w : World) : (ReflectliteValue.unpack (.iface 129 (.pointer (some t)))).run Tryd.prog w
    = .ok (.agg #[.pointer (some ⟨1, 129, none⟩), .pointer (some ⟨w.heap.size, 0, none⟩), .int .u64 150]) (w.alloc (.cells #[.pointer (some t)] 129)) := by kernel_rfl
theorem typeT (a : Addr) (w : World) : (ReflectliteValue.methodAny (ReflectliteValue.valueError "reflectlite.Value.Type" 0) (fun t _ _ _ => ReflectliteType.toType t) #[.agg #[.pointer (some ⟨1, 129, none⟩), .pointer (some a), .int .u64 150]]).run Tryd.prog w
    = .ok (.iface 185 (.agg #[.pointer (some ⟨1, 129, none⟩)])) w := by kernel_rfl
theorem methodKind (h : Value) (w : World) : (Go.method 356 185 (.agg #[h]) "Kind").run Tryd.prog w = .ok (114, h) w := by kernel_rfl
theorem kindT (w : World) : ((ReflectliteType.abiMethod fun t => (fun a : Nat => Value.int IntKind.u8 (a : Int)) <$> Rtype.kind t) #[.pointer (some ⟨1, 129, none⟩)]).run Tryd.prog w = .ok (.int .u8 22) w := by kernel_rfl
theorem kindC (w : World) : ((ReflectliteType.abiMethod fun t => (fun a : Nat => Value.int IntKind.u8 (a : Int)) <$> Rtype.kind t) #[.pointer (some ⟨1, 56, none⟩)]).run Tryd.prog w = .ok (.int .u8 2) w := by kernel_rfl
theorem rlm (z : Sem Value) (f : TypeId → Addr → Nat → Nat → Sem Value) (v : Value) :
    ReflectliteValue.method z f #[v] = (do match ← ReflectliteValue.parts v with | none => z | some (t, a, fl) => f t a fl (fl % 32)) := rfl
theorem partsT (a : Addr) (w : World) : (ReflectliteValue.parts (.agg #[.pointer (some ⟨1, 129, none⟩), .pointer (some a), .int .u64 150])).run Tryd.prog w = .ok (some (129, a, 150)) w := by kernel_rfl
theorem isNilT (a p : Addr) (W : World) (ha : W.cell? a = some (.pointer (some p))) :
    (ReflectliteValue.method (ReflectliteValue.valueError "reflectlite.Value.IsNil" 0) ReflectliteValue.isNil #[.agg #[.pointer (some ⟨1, 129, none⟩), .pointer (some a), .int .u64 150]]).run Tryd.prog W = .ok (.bool false) W := by
  rw [rlm]
  simp only [Sem.run_bind, partsT, Result.andThen]
  simp [ReflectliteValue.isNil, loadVar, isAgg, underlying, Tryd.underlying129, ha, Result.andThen]
theorem methodElem (h : Value) (w : World) : (Go.method 356 185 (.agg #[h]) "Elem").run Tryd.prog w = .ok (131, .agg #[h]) w := by kernel_rfl
theorem methodImplements (h : Value) (w : World) : (Go.method 356 185 (.agg #[h]) "Implements").run Tryd.prog w = .ok (132, .agg #[h]) w := by kernel_rfl
theorem methodAssignableTo (h : Value) (w : World) : (Go.method 356 185 (.agg #[h]) "AssignableTo").run Tryd.prog w = .ok (129, .agg #[h]) w := by kernel_rfl
theorem elemT (w : World) : (ReflectliteType.method ReflectliteType.elem #[.agg #[.pointer (some ⟨1, 129, none⟩)]]).run Tryd.prog w = .ok (.iface 185 (.agg #[.pointer (some ⟨1, 56, none⟩)])) w := by kernel_rfl
theorem implementsC (w : World) : (ReflectliteType.relation "Implements" ReflectliteType.implements_ #[.agg #[.pointer (some ⟨1, 56, none⟩)], .iface 185 (.agg #[.pointer (some ⟨1, 31, none⟩)])]).run Tryd.prog w = .ok (.bool true) w := by kernel_rfl
theorem typeOfC (v : Value) (w : World) : (ReflectliteType.typeOf #[.iface 56 v]).run Tryd.prog w = .ok (.iface 185 (.agg #[.pointer (some ⟨1, 56, none⟩)])) w := by kernel_rfl
theorem assignableC (w : World) : (ReflectliteType.relation "AssignableTo" ReflectliteType.assignableTo #[.agg #[.pointer (some ⟨1, 56, none⟩)], .iface 185 (.agg #[.pointer (some ⟨1, 56, none⟩)])]).run Tryd.prog w = .ok (.bool true) w := by kernel_rfl
theorem valueOfC (k : Int) (w : World) : (ReflectliteValue.unpack (.iface 56 (.int .i64 k))).run Tryd.prog w
    = .ok (.agg #[.pointer (some ⟨1, 56, none⟩), .pointer (some ⟨w.heap.size, 0, none⟩), .int .u64 130]) (w.alloc (.cells #[.int .i64 k] 56)) := by kernel_rfl
theorem elemOfT (w : World) : (Rtype.elem? 129).run Tryd.prog w = .ok (some 56) w := by kernel_rfl
theorem mkC (p : Addr) (w : World) : (ReflectliteValue.mk 56 p ReflectliteValue.flagAddr).run Tryd.prog w = .ok (.agg #[.pointer (some ⟨1, 56, none⟩), .pointer (some p), .int .u64 386]) w := by kernel_rfl
theorem elemV (a p : Addr) (W : World) (ha : W.cell? a = some (.pointer (some p))) :
    (ReflectliteValue.method (ReflectliteValue.valueError "reflectlite.Value.Elem" 0) ReflectliteValue.elem #[.agg #[.pointer (some ⟨1, 129, none⟩), .pointer (some a), .int .u64 150]]).run Tryd.prog W
      = .ok (.agg #[.pointer (some ⟨1, 56, none⟩), .pointer (some p), .int .u64 386]) W := by
  rw [rlm]
  simp only [Sem.run_bind, partsT, Result.andThen]
  simp [ReflectliteValue.elem, loadVar, isAgg, underlying, Tryd.underlying129, ha, Result.andThen, elemOfT, mkC]
theorem rls (v x : Value) : ∃ s1 s2 s3 s4 s5 : String, ReflectliteValue.set #[v, x] = (do
    let (some (dst, a, fl), some (src, b, _)) := (← ReflectliteValue.parts v, ← ReflectliteValue.parts x)
      | unsupported (.noEntry s1)
    if fl / ReflectliteValue.flagAddr % 2 == 0 then unsupported (.noEntry s2)
    let val ← loadVar src b
    if ← Rtype.directlyAssignable dst src then storeVar dst a val
    else if ← Rtype.implements dst src then
      if (← Rtype.kind src) == 20 then
        match val with
        | .nilIface => unsupported (.noEntry s3)
        | _ => storeVar dst a val
      else storeVar dst a (.iface src val)
    else panicString (s4 ++ (← Rtype.spelt src) ++ s5 ++ (← Rtype.spelt dst))
    pure (.tuple #[])) := ⟨_, _, _, _, _, rfl⟩
theorem partsA (a : Addr) (w : World) : (ReflectliteValue.parts (.agg #[.pointer (some ⟨1, 56, none⟩), .pointer (some a), .int .u64 386])).run Tryd.prog w = .ok (some (56, a, 386)) w := by kernel_rfl
theorem partsB (a : Addr) (w : World) : (ReflectliteValue.parts (.agg #[.pointer (some ⟨1, 56, none⟩), .pointer (some a), .int .u64 130])).run Tryd.prog w = .ok (some (56, a, 130)) w := by kernel_rfl
theorem directC (w : World) : (Rtype.directlyAssignable 56 56).run Tryd.prog w = .ok true w := by kernel_rfl
theorem setC (ta b : Addr) (k : Int) (old : Value) (W : World) (hb : W.cell? b = some (.int .i64 k)) (ht : W.cell? ta = some old) (hf : W.frozen? ta = false) :
    (ReflectliteValue.set #[.agg #[.pointer (some ⟨1, 56, none⟩), .pointer (some ta), .int .u64 386], .agg #[.pointer (some ⟨1, 56, none⟩), .pointer (some b), .int .u64 130]]).run Tryd.prog W
      = .ok (.tuple #[]) (W.setCell ta (.int .i64 k)) := by
  obtain ⟨s1, s2, s3, s4, s5, e⟩ := rls (.agg #[.pointer (some ⟨1, 56, none⟩), .pointer (some ta), .int .u64 386]) (.agg #[.pointer (some ⟨1, 56, none⟩), .pointer (some b), .int .u64 130])
  rw [e]
  simp only [Sem.run_bind, partsA, partsB, Result.andThen]
  simp [ReflectliteValue.flagAddr, loadVar, isAgg, underlying, Tryd.underlying56, hb, Result.andThen, directC, storeVar, Value.cells, storeCells, Addr.add]
  rw [run_store Tryd.prog W ta _ _ (by rfl)]
  simp [ht, hf]

set_option maxHeartbeats 4000000 in
/-- errors.As(a code, the address of a code): true; the code is laid there. -/
theorem as_hit (k old : Int) (t : Nat) (w : World) (hg : w.cell? ⟨0, 0, none⟩ = some (.iface 185 (.agg #[.pointer (some ⟨1, 31, none⟩)]))) (hT : Blk w t 56 #[.int .i64 old]) :
    Calls Tryd.prog 48 #[.iface 56 (.int .i64 k), .iface 129 (.pointer (some ⟨t, 0, none⟩))] w fun ev w' => ev = .returned (.bool true) ∧ Blk w' t 56 #[.int .i64 k] ∧ Fr (only t) w w' := by
  have h6 := @run_callFunc_extern Tryd.prog 65 _ (fun args => ReflectliteValue.unpack (args.getD 0 (.tuple #[]))) Tryd.func65 (by kernel_rfl) (by kernel_rfl) (by kernel_rfl) (by kernel_rfl)
  have h7 := @run_callFunc_extern Tryd.prog 66 _ (ReflectliteValue.methodAny (ReflectliteValue.valueError "reflectlite.Value.Type" 0) (fun t _ _ _ => ReflectliteType.toType t)) Tryd.func66 (by kernel_rfl) (by kernel_rfl) (by kernel_rfl) (by kernel_rfl)
  have h8 := @run_callFunc_extern Tryd.prog 67 _ (ReflectliteValue.method (ReflectliteValue.valueError "reflectlite.Value.IsNil" 0) ReflectliteValue.isNil) Tryd.func67 (by kernel_rfl) (by kernel_rfl) (by kernel_rfl) (by kernel_rfl)
  have h27 := @run_callFunc_extern Tryd.prog 114 _ (ReflectliteType.abiMethod fun t => do pure (.int .u8 (← Rtype.kind t))) Tryd.func114 (by kernel_rfl) (by kernel_rfl) (by kernel_rfl) (by kernel_rfl)
  have h37 := @run_callFunc_extern Tryd.prog 131 _ (ReflectliteType.method ReflectliteType.elem) Tryd.func131 (by kernel_rfl) (by kernel_rfl) (by kernel_rfl) (by kernel_rfl)
  have h38 := @run_callFunc_extern Tryd.prog 132 _ (ReflectliteType.relation "Implements" ReflectliteType.implements_) Tryd.func132 (by kernel_rfl) (by kernel_rfl) (by kernel_rfl) (by kernel_rfl)
  have h10 := @run_callFunc_extern Tryd.prog 73 _ ReflectliteType.typeOf Tryd.func73 (by kernel_rfl) (by kernel_rfl) (by kernel_rfl) (by kernel_rfl)
  have h35 := @run_callFunc_extern Tryd.prog 129 _ (ReflectliteType.relation "AssignableTo" ReflectliteType.assignableTo) Tryd.func129 (by kernel_rfl) (by kernel_rfl) (by kernel_rfl) (by kernel_rfl)
  have h11 := @run_callFunc_extern Tryd.prog 74 _ (ReflectliteValue.method (ReflectliteValue.valueError "reflectlite.Value.Elem" 0) ReflectliteValue.elem) Tryd.func74 (by kernel_rfl) (by kernel_rfl) (by kernel_rfl) (by kernel_rfl)
  have h12 := @run_callFunc_extern Tryd.prog 75 _ ReflectliteValue.set Tryd.func75 (by kernel_rfl) (by kernel_rfl) (by kernel_rfl) (by kernel_rfl)
  have tO := typeOfC
  have mA := methodAssignableTo
  have a25 := assignableC
  have v25 := valueOfC
  have f6 := valueOfT
  have f7 := typeT
  have mK := methodKind
  have mE := methodElem
  have mI := methodImplements
  have k27 := kindT
  have k25 := kindC
  have e27 := elemT
  have i25 := implementsC
  obtain ⟨w1, hw1⟩ : ∃ w1, w1 = w.alloc (.cells #[.pointer (some ⟨t, 0, none⟩)] 129) := ⟨_, rfl⟩
  obtain ⟨w2, hw2⟩ : ∃ w2, w2 = w1.alloc (.cells #[.pointer (some ⟨1, 129, none⟩), .pointer (some ⟨w.heap.size, 0, none⟩), .int .u64 150] 168) := ⟨_, rfl⟩
  obtain ⟨w3, hw3⟩ : ∃ w3, w3 = w2.alloc (.cells #[.pointer (some ⟨1, 129, none⟩), .pointer (some ⟨w.heap.size, 0, none⟩), .int .u64 150] 168) := ⟨_, rfl⟩
  obtain ⟨w4, hw4⟩ : ∃ w4, w4 = w3.alloc (.cells #[.int .i64 k] 56) := ⟨_, rfl⟩
  have B1 : Blk w1 w.heap.size 129 #[.pointer (some ⟨t, 0, none⟩)] := by rw [hw1]; exact Blk.new _ _ _
  have s1 : w1.heap.size = w.heap.size + 1 := by rw [hw1]; simp
  have s2 : w2.heap.size = w.heap.size + 1 + 1 := by rw [hw2]; simp [s1]
  have s3 : w3.heap.size = w.heap.size + 1 + 1 + 1 := by rw [hw3]; simp [s2]
  have B2 : Blk w2 w.heap.size 129 #[.pointer (some ⟨t, 0, none⟩)] := by rw [hw2]; exact B1.alloc _
  have B3 : Blk w3 w.heap.size 129 #[.pointer (some ⟨t, 0, none⟩)] := by rw [hw3]; exact B2.alloc _
  have B4 : Blk w4 (w.heap.size + 1 + 1 + 1) 56 #[.int .i64 k] := by rw [hw4, ← s3]; exact Blk.new _ _ _
  have T4 : Blk w4 t 56 #[.int .i64 old] := by rw [hw4, hw3, hw2, hw1]; exact (((hT.alloc _).alloc _).alloc _).alloc _
  have F4 : Fr (only t) w w4 := by rw [hw4, hw3, hw2, hw1]; exact ((((Fr.refl _ _).alloc _).alloc _).alloc _).alloc _
  have hlt : 0 < w.heap.size := World.block_lt_of_cell? w _ hg
  have hg2 : w2.cell? ⟨0, 0, none⟩ = some (.iface 185 (.agg #[.pointer (some ⟨1, 31, none⟩)])) := by
    rw [hw2, hw1, World.cell?_alloc_lt _ _ ⟨0, 0, none⟩ (by simp), World.cell?_alloc_lt _ _ ⟨0, 0, none⟩ hlt]; exact hg
  have n8 := isNilT ⟨w.heap.size, 0, none⟩ ⟨t, 0, none⟩ w2 (B2.cell' rfl)
  have el := elemV ⟨w.heap.size, 0, none⟩ ⟨t, 0, none⟩ w3 (B3.cell' rfl)
  have st := setC ⟨t, 0, none⟩ ⟨w.heap.size + 1 + 1 + 1, 0, none⟩ k (.int .i64 old) w4 (B4.cell' rfl) (T4.cell' rfl) (T4.frozen 0)
  have fin : Hid (Blk (w4.setCell ⟨t, 0, none⟩ (.int .i64 k)) t 56 #[.int .i64 k] ∧ Fr (only t) w (w4.setCell ⟨t, 0, none⟩ (.int .i64 k))) := hid_ ⟨T4.set_ 0 (.int .i64 k), F4.setCell (p := ⟨t, 0, none⟩) (.inl (Eq.refl t)) _⟩
  clear B1 B2 B3 B4 T4 F4 s1 s2 s3 hT
  subst hw4
  subst hw3
  subst hw2
  subst hw1
  go_enter Tryd.func48, Tryd.ntmps48
  go_wp2
  refine wp_loop_rounds 1 ?_
  rw [rounds_succ]
  go_wp2
  go_ret
  exact ⟨rfl, fin.out⟩
end Go.Proofs.YtfihfjbakfadkaaDoor
namespace Go.Proofs.YtfihfjbakfadkaaDoor
open Go.RowKit
set_option linter.unusedVariables false

/-- The variable errors.errorType holds the handle of the type error. -/
def Laid (w : World) : Prop := w.cell? ⟨0, 0, none⟩ = some (.iface 185 (.agg #[.pointer (some ⟨1, 31, none⟩)]))
theorem Laid.lt {w : World} (h : Laid w) : 0 < w.heap.size := World.block_lt_of_cell? w _ h
theorem Laid.fr {w w' : World} {S : Nat → Prop} (h : Laid w) (hf : Fr S w w') (hS : ¬ S 0) : Laid w' :=
  (World.cell?_of_block (hf.block 0 h.lt hS)).trans h
theorem Laid.alloc {w : World} (h : Laid w) (o : Obj) : Laid (w.alloc o) := h.fr ((Fr.refl none_ w).alloc o) id

theorem code_nil (w : World) : Calls Tryd.prog 17 #[.nilIface] w fun e w' => e = .returned (.int .i64 0) ∧ Fr none_ w w' := by
  go_enter Tryd.func17, Tryd.ntmps17
  go_wp2_with (go_at_call 48; refine (as_nil _ _).mono ?_; rintro e w' ⟨rfl, rfl⟩)
  go_ret
  exact ⟨rfl, by repeat (first | exact Fr.refl _ _ | apply Fr.drew | apply Fr.alloc)⟩

theorem code_hit (k : Int) (w : World) (hL : Laid w) : Calls Tryd.prog 17 #[errV k] w fun e w' => e = .returned (.int .i64 k) ∧ Fr none_ w w' := by
  have HL := hid_ hL
  clear hL
  go_enter Tryd.func17, Tryd.ntmps17
  go_wp2_with fail
  refine (as_hit k 0 _ _ (HL.out.alloc _) (Blk.new w _ _)).mono ?_
  rintro e w1 ⟨rfl, hb, hf⟩
  have c0 : w1.cell? ⟨w.heap.size, 0, none⟩ = some (.int .i64 k) := hb.cell' rfl
  have F1 := hid_ (((Fr.refl none_ w).alloc (.cells #[.int .i64 0] 56)).then_only hf (.inr (Nat.le_refl _)))
  clear hb hf
  go_wp2
  go_ret
  exact ⟨rfl, F1.out⟩

/-- An error as its number: 0 is nil. -/
theorem code_any (k : Int) (w : World) (hL : Laid w) : Calls Tryd.prog 17 #[errOf k] w fun e w' => e = .returned (.int .i64 k) ∧ Fr none_ w w' := by
  by_cases h : k = 0
  · subst h; exact code_nil w
  · rw [errOf_pos h]; exact code_hit k w hL
end Go.Proofs.YtfihfjbakfadkaaDoor
namespace Go.Proofs.YtfihfjbakfadkaaDoor
open Go.RowKit Go.BigFrame
set_option maxRecDepth 100000
set_option linter.unusedVariables false

/-- Two pages of one chain. -/
structure TwoPg (w : World) (lv : Lw) (iv : Vw) (refs : List (Int × Int)) (nc : Nat) (L L2 : List Ch) (C C2 D D2 : Option Addr) : Prop where
  ch : SmCh w C C2 nc L L2
  r1 : Reads w 2 D refs.length (rpFlat refs)
  r2 : Reads w 2 D2 refs.length (rpFlat refs)
  zc : nc ≤ 400
  zr : refs.length ≤ 5000
  zl : lv.rows.length ≤ 300000
  zi : iv.ents.length ≤ 1000
theorem TwoPg.keep {w w' : World} {lv : Lw} {iv : Vw} {refs : List (Int × Int)} {nc : Nat} {L L2 : List Ch} {C C2 D D2 : Option Addr} (h : TwoPg w lv iv refs nc L L2 C C2 D D2) (hf : Fr none_ w w') : TwoPg w' lv iv refs nc L L2 C C2 D D2 :=
  ⟨h.ch.keep hf, h.r1.none_fr hf, h.r2.none_fr hf, h.zc, h.zr, h.zl, h.zi⟩
theorem smCh_of {b1 b2 : Nat} {w1 w2 w : World} {l : List Rc} {C C2 : Option Addr} {x x2 : Nat} (h1 : ∃ Cs : List Ch, Cs.map (·.R) = l ∧ w1.ownsRow b1 41 15 (.slice C l.length x) l.length (recFlat Cs) ∧ ∀ E ∈ Cs, ChOwn w1 E)
    (h2 : ∃ Cs : List Ch, Cs.map (·.R) = l ∧ w2.ownsRow b2 41 15 (.slice C2 l.length x2) l.length (recFlat Cs) ∧ ∀ E ∈ Cs, ChOwn w2 E) (hf1 : Fr none_ w1 w) (hf2 : Fr none_ w2 w) (hz : ∀ R ∈ l, R.rows.length ≤ 1000 ∧ R.ents.length ≤ 1000) : ∃ L L2, SmCh w C C2 l.length L L2 := by
  obtain ⟨Cs, m1, m2, m3⟩ := h1
  obtain ⟨Ds, k1, k2, k3⟩ := h2
  have hcl : Cs.length = l.length := by rw [← m1, List.length_map]
  have hdl : Ds.length = l.length := by rw [← k1, List.length_map]
  refine ⟨Cs, Ds, (chReads_own m2 hcl (fun C hC => (m3 C hC).ok)).keep hf1, (chReads_own k2 hdl (fun C hC => (k3 C hC).ok)).keep hf2, by rw [k1, m1], fun D hD => hz D.R ?_⟩
  rw [← m1]
  exact List.mem_map.2 ⟨D, hD, rfl⟩
/-- Both loaders are over: one page, twice, and one error. -/
theorem two_pages {b1 b2 : Nat} {s t : LdS} {w1 w1' w2 w2' : World} {v1 v2 : Value} (h1 : LdMade b1 s w1 v1 w1') (h2 : LdMade b2 t w2 v2 w2') (hL : s.L.map (·.R) = t.L.map (·.R)) (hr : s.refs = t.refs) (hn : s.n = t.n) (hs : s.hs = t.hs) (hg : s.hg = t.hg) (hz : s.L.length ≤ 400) (hzr : s.refs.length ≤ 5000) (hp : ∀ R ∈ s.L.map (·.R), PRec R) :
    ∃ (n hs hg : Int) (leaf : Bool) (lv : Lw) (iv : Vw) (refs : List (Int × Int)) (nc : Nat) (C D A B C2 D2 A2 B2 : Option Addr) (x y c d x2 y2 c2 d2 : Nat) (k : Int),
      v1 = .tuple #[.agg (pgA n hs hg (.slice C nc x) (.slice D refs.length y) leaf lv (.slice A lv.rows.length c) iv (.slice B iv.ents.length d)), errOf k] ∧
      v2 = .tuple #[.agg (pgA n hs hg (.slice C2 nc x2) (.slice D2 refs.length y2) leaf lv (.slice A2 lv.rows.length c2) iv (.slice B2 iv.ents.length d2)), errOf k] ∧
      ∀ w', Fr none_ w1' w' → Fr none_ w2' w' → ∃ L L2, TwoPg w' lv iv refs nc L L2 C C2 D D2 := by
  rcases made_two h1 h2 hL with ⟨leaf, lv, iv, A, c, B, d, C, x, D, y, A', c', B', d', C', x', D', y', rfl, hp1, rfl, hp2⟩ | ⟨k, hk, rfl, rfl⟩
  · have htl : t.L.length = s.L.length := by have := congrArg List.length hL; simpa using this.symm
    refine ⟨s.n, s.hs, s.hg, leaf, lv, iv, s.refs, s.L.length, C, D, A, B, C', D', A', B', x, y, c, d, x', y', c', d', 0, rfl, ?_, fun w' hf1 hf2 => ?_⟩
    · rw [htl, ← hr, ← hn, ← hs, ← hg]
      rfl
    · have hc1 := hp1.ch
      have hc2 := hp2.ch
      rw [← hL] at hc2
      obtain ⟨L, L2, hsm⟩ := smCh_of hc1 hc2 hf1 hf2 (fun R hR => ⟨by have := (hp R hR).zr; omega, by have := (hp R hR).ze; omega⟩)
      rw [List.length_map] at hsm
      refine ⟨L, L2, hsm, (Reads.of_own hp1.rf).none_fr hf1, ?_, hz, hzr, hp1.lv.ok.rows.1, hp1.iv.ok.ents.1⟩
      have := (Reads.of_own hp2.rf).none_fr hf2
      rwa [← hr] at this
  · refine ⟨0, 0, 0, false, Lw.zero, Vw.zero, [], 0, none, none, none, none, none, none, none, none, 0, 0, 0, 0, 0, 0, 0, 0, k, ?_, ?_, fun w' hf1 hf2 => ⟨[], [], ⟨⟨rfl, fun h => absurd h (Nat.lt_irrefl 0)⟩, ⟨rfl, fun h => absurd h (Nat.lt_irrefl 0)⟩, rfl, fun D hD => by cases hD⟩, Reads.nil_, Reads.nil_, Nat.zero_le _, Nat.zero_le _, Nat.zero_le _, Nat.zero_le _⟩⟩
    · rw [errOf_pos hk]; rfl
    · rw [errOf_pos hk]; rfl
theorem Ldr.base {b0 b1 g : Nat} {w : World} {s : LdS} (h : Ldr b1 w g s) (hb : b0 ≤ b1) : Ldr b0 w g s :=
  ⟨h.b, Nat.le_trans hb h.lb, own_base h.l hb, own_base h.r hb, fun C hC => (h.own C hC).base hb⟩
/-- The two loaders of the law, and the row that holds them. -/
structure TwS (w : World) (b0 m : Nat) (K : Int) (y : St) (js : List Nat) (s0 g0 : Int) (gX ga gb : Nat) (wr : World) (p q : Nat) (s t : LdS) : Prop where
  tw : Tw b0 wr m (K + (p : Int) + (q : Int)) lim10 y js s0 g0 ga gb p q s t
  bx : Blk wr gX 74 #[.pointer (some ⟨ga, 0, none⟩), .pointer (some ⟨gb, 0, none⟩)]
  fr : Fr none_ w wr
theorem TwS.keep {w : World} {b0 m : Nat} {K : Int} {y : St} {js : List Nat} {s0 g0 : Int} {gX ga gb : Nat} {wr w' : World} {p q : Nat} {s t : LdS} (h : TwS w b0 m K y js s0 g0 gX ga gb wr p q s t) (hf : Fr none_ wr w') : TwS w b0 m K y js s0 g0 gX ga gb w' p q s t :=
  ⟨h.tw.keep hf, h.bx.fr hf id, h.fr.then_none hf⟩
/-- What the two loops know of the memory. -/
structure TwK (w : World) (b0 m : Nat) (K : Int) (y : St) (js : List Nat) (s0 g0 : Int) : Prop where
  hb : ∀ i, mall m y i → i < b0
  ho : ∀ i, mall m y i → w.heap.size ≤ i
  wb : w.heap.size ≤ b0
  k0 : 0 ≤ K
  k1 : K ≤ 50000
  on_ : On y lim10 js s0 g0
theorem TwK.len {w : World} {b0 m : Nat} {K : Int} {y : St} {js : List Nat} {s0 g0 : Int} (h : TwK w b0 m K y js s0 g0) : js.length ≤ 100 := h.on_.ls
theorem tws_a {w : World} {b0 m : Nat} {K : Int} {y : St} {js : List Nat} {s0 g0 : Int} {gX ga gb : Nat} {wr : World} {p q : Nat} {s t : LdS} (h : TwS w b0 m K y js s0 g0 gX ga gb wr p q s t) (hk : TwK w b0 m K y js s0 g0) :
    Calls Tryd.prog 23 #[.pointer (some ⟨ga, 0, none⟩), .pointer (some ⟨m, 0, none⟩)] wr fun e w' => ∃ s', e = .returned (.bool (decide (js.length ≤ p))) ∧ TwS w b0 m K y js s0 g0 gX ga gb w' (min (p + 1) (js.length + 1)) q s' t := by
  have h1 := h.tw.pa.le
  have h2 := h.tw.pb.le
  have h3 := hk.len
  have h4 := hk.k0
  have h5 := hk.k1
  refine (tw_step h.tw hk.hb (by omega) (by omega) hk.on_).mono ?_
  rintro e w' ⟨s', k', he, ht, hk', hf, hx⟩
  refine ⟨s', he, ?_, hx _ _ h.bx, h.fr.trans hf (fun _ _ => id) (fun i hi e => ?_)⟩
  · have e1 : k' = K + ((min (p + 1) (js.length + 1) : Nat) : Int) + (q : Int) := by rw [hk']; omega
    rw [← e1]
    exact ht
  · have := hk.wb
    rcases e with e | e
    · have := hk.ho i e; omega
    · omega
theorem tws_b {w : World} {b0 m : Nat} {K : Int} {y : St} {js : List Nat} {s0 g0 : Int} {gX ga gb : Nat} {wr : World} {p q : Nat} {s t : LdS} (h : TwS w b0 m K y js s0 g0 gX ga gb wr p q s t) (hk : TwK w b0 m K y js s0 g0) :
    Calls Tryd.prog 23 #[.pointer (some ⟨gb, 0, none⟩), .pointer (some ⟨m, 0, none⟩)] wr fun e w' => ∃ t', e = .returned (.bool (decide (js.length ≤ q))) ∧ TwS w b0 m K y js s0 g0 gX ga gb w' p (min (q + 1) (js.length + 1)) s t' := by
  have h1 := h.tw.pa.le
  have h2 := h.tw.pb.le
  have h3 := hk.len
  have h4 := hk.k0
  have h5 := hk.k1
  refine (tw_step h.tw.swap hk.hb (by omega) (by omega) hk.on_).mono ?_
  rintro e w' ⟨s', k', he, ht, hk', hf, hx⟩
  refine ⟨s', he, ?_, hx _ _ h.bx, h.fr.trans hf (fun _ _ => id) (fun i hi e => ?_)⟩
  · have e1 : k' = K + (p : Int) + ((min (q + 1) (js.length + 1) : Nat) : Int) := by rw [hk']; omega
    rw [← e1]
    exact ht.swap
  · have := hk.wb
    rcases e with e | e
    · have := hk.ho i e; omega
    · omega
end Go.Proofs.YtfihfjbakfadkaaDoor
namespace Go.Proofs.YtfihfjbakfadkaaDoor
open Go.RowKit Go.BigFrame
set_option maxRecDepth 100000
set_option linter.unusedVariables false

/-- A memory of which d records were put, on page 0 whose chain was js. -/
structure PuSt (m : Nat) (k : Int) (l : Lm) (x : St) (js : List Nat) (w : World) (d : Nat) (w' : World) (y : St) (js1 : List Nat) (s g kk : Int) : Prop where
  mm : Mm w' m kk l y
  p : Pst y js1 s g
  ne : js1 ≠ []
  le : js1.length ≤ js.length + d
  k0 : k ≤ kk
  k1 : kk ≤ k + 3 * (d : Int)
  st : Stand x.ss y.ss
  al : mall m y = mall m x
  fr : Fr (mall m x) w w'
theorem PuSt.start {m : Nat} {k : Int} {l : Lm} {x : St} {js : List Nat} {w : World} {s g : Int} (hm : Mm w m k l x) (hp : Pst x js s g) (hne : js ≠ []) : PuSt m k l x js w 0 w x js s g k :=
  ⟨hm, hp, hne, Nat.le_refl _, Int.le_refl _, by omega, Stand.refl _, rfl, Fr.refl _ _⟩
/-- Alloc told an error. -/
theorem PuSt.failed {m : Nat} {k : Int} {l : Lm} {x : St} {js : List Nat} {w : World} {d : Nat} {w1 : World} {y : St} {js1 : List Nat} {s g kk : Int} (h : PuSt m k l x js w d w1 y js1 s g kk) {w' : World} {R : Rc} {sl gn c last : Int} {ss' : List Sl} (ha : AllocR last y.ss R sl gn c ss') (hm : Mm w' m (kk + 1 + 1) l { y with ss := ss' }) (hf : Fr (mall m x) w1 w') :
    PuSt m k l x js w (d + 1) w' { y with ss := ss' } js1 s g (kk + 1 + 1) :=
  ⟨hm, h.p.alloc ha, h.ne, by have := h.le; omega, by have := h.k0; omega, by have := h.k1; push_cast; omega, h.st.trans (Stand.of ha), h.al, h.fr.trans hf (fun _ _ => id) (fun _ _ => id)⟩
/-- What was put was hung on the page. -/
theorem PuSt.hung {m : Nat} {k : Int} {l : Lm} {x : St} {js : List Nat} {w : World} {d : Nat} {w1 : World} {y : St} {js1 : List Nat} {s g kk : Int} (h : PuSt m k l x js w d w1 y js1 s g kk) {w' : World} {R : Rc} {sl gn last k3 : Int} {ss' : List Sl} {ps' : List Pg} {ok : Bool} (ha : AllocR last y.ss R sl gn 0 ss') (hR : PRec R) (hn : (R.nslot = s ∧ R.ngen = g) ∨ (R.nslot = 0 ∧ R.ngen = 0)) (hs : SwapR y.ps 0 s g sl gn ok k3 ps')
    (hm : Mm w' m (kk + 1 + 1 + 1) l { y with ss := ss', ps := ps' }) (hf : Fr (mall m x) w1 w') :
    ∃ js2, PuSt m k l x js w (d + 1) w' { y with ss := ss', ps := ps' } js2 sl gn (kk + 1 + 1 + 1) := by
  obtain ⟨js2, h1, h2, h3⟩ := h.p.push ha hR hn hs
  exact ⟨js2, hm, h1, h2, by have := h.le; omega, by have := h.k0; omega, by have := h.k1; push_cast; omega, h.st.trans (Stand.of ha), h.al, h.fr.trans hf (fun _ _ => id) (fun _ _ => id)⟩
theorem PuSt.keep {m : Nat} {k : Int} {l : Lm} {x : St} {js : List Nat} {w : World} {d : Nat} {w1 : World} {y : St} {js1 : List Nat} {s g kk : Int} (h : PuSt m k l x js w d w1 y js1 s g kk) {w' : World} (hf : Fr none_ w1 w') : PuSt m k l x js w d w' y js1 s g kk :=
  ⟨h.mm.keep hf, h.p, h.ne, h.le, h.k0, h.k1, h.st, h.al, h.fr.then_none hf⟩
/-- What is older than the memory is as it was. -/
theorem fr_old {m : Nat} {x : St} {w0 w w' : World} (h0 : Fr none_ w0 w) (hb : ∀ i, mall m x i → w0.heap.size ≤ i) (hf : Fr (mall m x) w w') : Fr none_ w0 w' :=
  h0.trans hf (fun _ _ => id) (fun i hi e => by have := hb i e; omega)
/-- The records of a list that push may put. -/
structure PuIn (w : World) (A : Option Addr) (n : Nat) (L : List Ch) : Prop where
  rd : InReads w A n L
  pr : ∀ C ∈ L, PRec C.R
theorem PuIn.keep {w w' : World} {A : Option Addr} {n : Nat} {L : List Ch} (h : PuIn w A n L) (hf : Fr none_ w w') : PuIn w' A n L := ⟨h.rd.keep hf, h.pr⟩
end Go.Proofs.YtfihfjbakfadkaaDoor
namespace Go.Proofs.YtfihfjbakfadkaaDoor
open Go.RowKit Go.BigFrame
set_option maxRecDepth 100000
set_option linter.unusedVariables false

theorem recA_hang (R : Rc) (vr ve : Value) (s g : Int) : ((recA R vr ve).setIfInBounds 13 (.int .i64 s)).setIfInBounds 14 (.int .i64 g) = recA (R.hang s g) vr ve := by
  simp only [List.setIfInBounds_toArray, List.set_cons_zero, List.set_cons_succ]
theorem hang_set {w w' : World} {b : Nat} {R : Rc} {vr ve : Value} {s g : Int} (h : Blk w b 41 (recA R vr ve)) (hw : w' = (w.setCell ⟨b, 13, none⟩ (.int .i64 s)).setCell ⟨b, 14, none⟩ (.int .i64 g)) : Blk w' b 41 (recA (R.hang s g) vr ve) ∧ Fr (only b) w w' := by
  subst hw
  refine ⟨?_, ((Fr.refl (only b) w).setCell (p := ⟨b, 13, none⟩) (.inl (Eq.refl _)) _).setCell (p := ⟨b, 14, none⟩) (.inl (Eq.refl _)) _⟩
  have := (h.set_ 13 (.int .i64 s)).set_ 14 (.int .i64 g)
  rwa [recA_hang] at this
theorem recA_range {w : World} {b : Nat} {R : Rc} {vr ve : Value} (h : Blk w b 41 (recA R vr ve)) : w.rangeAt b 0 (recA R vr ve).toList := fun j v hv => by
  rw [Nat.zero_add]
  exact h.cell' (by simpa using hv)
set_option maxHeartbeats 8000000 in
theorem push10_ok {w0 : World} {m : Nat} {k : Int} {l : Lm} {x : St} {js : List Nat} {s0 g0 : Int} {A : Option Addr} {n cap : Nat} {L : List Ch} (base : Bool) (w : World) (h : PuIn w0 A n L) (hf : Fr none_ w0 w) (hn : n ≤ 400) (hm : Mm w m k l x) (hp : Pst x js s0 g0) (hne : js ≠ []) (hb : ∀ i, mall m x i → w0.heap.size ≤ i) (h0 : 0 ≤ k) (h1 : k ≤ 50000) :
    Calls Tryd.prog 21 #[.pointer (some ⟨m, 0, none⟩), .slice A n cap, .bool base] w fun e w' => e = .returned (.tuple #[]) ∧ ∃ y js1 s g kk, PuSt m k l x js w n w' y js1 s g kk := by
  have H := hid_ h
  have F := hid_ hf
  have ST := hid_ (PuSt.start hm hp hne)
  have HB := hid_ hb
  have HN := hid_ hn
  have HLN := hid_ h.rd.1
  have hi1 : (0 : Int) ≤ (n : Int) := Int.natCast_nonneg _
  clear h hf hm hp hne hb
  go_enter Tryd.func21, Tryd.ntmps21
  go_wp2_with fail
  go_loopw [6] (fun i wr => ∃ (j : Nat) (y : St) (js1 : List Nat) (s g kk : Int), j ≤ n ∧ ((j = 0 ∧ i = .int .i64 (-1)) ∨ ∃ j' : Nat, j = j' + 1 ∧ i = .int .i64 (j' : Int)) ∧ PuSt m k l x js w (n - j) wr y js1 s g kk) (fun i _ => (intOf i + 1).toNat)
  case atStart =>
    refine ⟨n, x, js, s0, g0, k, Nat.le_refl _, ?_, by rw [Nat.sub_self]; exact ST.out⟩
    cases n with
    | zero => exact .inl ⟨rfl, by go_num⟩
    | succ n' => exact .inr ⟨n', rfl, by go_num⟩
  case round =>
    obtain ⟨j, y, js1, s, g, kk, hj, hjj, hps⟩ := hrel
    rcases hjj with ⟨rfl, rfl⟩ | ⟨j', rfl, rfl⟩
    · have P := hid_ hps
      clear hps ST
      go_wp2_with fail
      exact bodyPost_end (results_none rfl _ _ _) rfl ⟨rfl, y, js1, s, g, kk, by simpa using P.out⟩
    · have P := hid_ hps
      have HKK : Hid (0 ≤ kk ∧ kk ≤ 60000) := hid_ (by have h2 := hps.k0; have h3 := hps.k1; have h4 := HN.out; omega)
      clear hps ST
      obtain ⟨C, hC⟩ : ∃ C, L[j']? = some C := ⟨_, List.getElem?_eq_getElem (by have := HLN.out; omega)⟩
      have HC := hid_ hC
      have HJ := hid_ hj
      have HR : Hid (PRec C.R) := hid_ (H.out.pr C (List.mem_of_getElem? hC))
      have hi0 : (0 : Int) ≤ (j' : Int) := Int.natCast_nonneg _
      have hlt : (j' : Int) < (n : Int) := by omega
      clear hC hj
      go_wp2_with fail
      refine (memHead_any m kk l y wr P.out.mm HKK.out.1 (by have := HKK.out.2; omega) 0).mono ?_
      rintro e w1 ⟨s1, g1, c1, v1, rfl, hhd, -, hm1, hf1⟩
      obtain ⟨rfl, rfl, rfl⟩ := P.out.p.head hhd
      have M1 := hid_ hm1
      have F1 : Hid (Fr (mall m x) wr w1) := hid_ (by rw [← P.out.al]; exact hf1)
      clear hhd hm1 hf1
      go_upto_region 4 with fail
      obtain ⟨w2, hw2⟩ : ∃ z, z = w1.alloc (.cells #[.int .i64 s1, .int .i64 g1] 25) := ⟨_, rfl⟩
      have K2 : Hid (Blk w2 w1.heap.size 25 #[.int .i64 s1, .int .i64 g1] ∧ Fr none_ w1 w2) := hid_ (by rw [hw2]; exact ⟨Blk.new w1 _ _, (Fr.refl none_ w1).alloc _⟩)
      change Code.wp _ _ _ _ (w1.alloc (.cells #[.int .i64 s1, .int .i64 g1] 25))
      rw [← hw2]
      clear hw2
      have BH := hid_ K2.out.1
      replace M1 := hid_ (M1.out.keep K2.out.2)
      replace F1 := hid_ (F1.out.then_none K2.out.2)
      obtain ⟨gh, hgh⟩ : ∃ g, g = w1.heap.size := ⟨_, rfl⟩
      rw [← hgh] at BH
      rw [← hgh]
      clear hgh K2
      have F02 : Hid (Fr none_ w0 w2) := hid_ (fr_old F.out HB.out (P.out.fr.trans F1.out (fun _ _ => id) (fun _ _ => id)))
      obtain ⟨b, off, rfl, hbb, hR, hO⟩ := (H.out.rd.keep F02.out).at_ HC.out
      have HRG := hid_ hR
      have HO := hid_ hO
      clear hR hO
      go_wp2_with (refine wpList_load_mid rfl 41 (.tmp 26) rfl b (off + j' * 15) rfl (recL C) _ HRG.out Tryd.underlying41 rfl rec_size8 ?_)
      refine (clone_ok C.R C.A C.c C.B C.d _ HO.out.rd (by have := HR.out.zr; omega) (by have := HR.out.ze; omega)).mono ?_
      rintro e w3 ⟨A1, c1, B1, d1, rfl, hro, hf3⟩
      have RO := hid_ hro
      replace BH := hid_ (BH.out.fr hf3 id)
      replace M1 := hid_ (M1.out.keep hf3)
      replace F1 := hid_ (F1.out.then_none hf3)
      have HW3 : Hid (wr.heap.size ≤ w3.heap.size) := hid_ F1.out.size
      clear hro hf3 HRG HO hbb F02
      go_upto_region 5 with (refine wpList_store_mid rfl 41 (.tmp 9) (.tmp 28) rfl w3.heap.size 0 (recL ⟨C.R, A1, c1, B1, d1⟩).toArray rfl rfl (new_there w3 _ recZ8) rec_size8 (rec_one ⟨C.R, A1, c1, B1, d1⟩) ?_; obtain ⟨wa, hwa⟩ : ∃ wa, wa = (w3.alloc (.cells recZ8 41)).setCells w3.heap.size 0 (recL ⟨C.R, A1, c1, B1, d1⟩) := ⟨_, rfl⟩; change wpList _ _ _ _ _ ((w3.alloc (.cells recZ8 41)).setCells w3.heap.size 0 (recL ⟨C.R, A1, c1, B1, d1⟩)); rw [← hwa]; have P1 : Hid (Blk wa w3.heap.size 41 (recL ⟨C.R, A1, c1, B1, d1⟩).toArray ∧ Fr none_ w3 wa) := hid_ (by rw [hwa]; exact new_copy w3 _ recZ8 _ rfl); clear hwa)
      have BR : Hid (Blk wa w3.heap.size 41 (recA C.R (.slice A1 C.R.rows.length c1) (.slice B1 C.R.ents.length d1))) := hid_ P1.out.1
      replace BH := hid_ (BH.out.fr P1.out.2 id)
      replace M1 := hid_ (M1.out.keep P1.out.2)
      replace F1 := hid_ (F1.out.then_none P1.out.2)
      replace RO := hid_ (RO.out.keep P1.out.2)
      obtain ⟨gr, hgr⟩ : ∃ g, g = w3.heap.size := ⟨_, rfl⟩
      have HG : Hid (wr.heap.size ≤ gr) := hid_ (by rw [hgr]; exact HW3.out)
      rw [← hgr] at BR
      rw [← hgr]
      clear hgr P1
      have x0 : wa.cell? ⟨gh, 0, none⟩ = some (.int .i64 s1) := BH.out.cell' rfl
      have x1 : wa.cell? ⟨gh, 1, none⟩ = some (.int .i64 g1) := BH.out.cell' rfl
      have z0 : wa.cell? ⟨gr, 13, none⟩ = some (.int .i64 C.R.nslot) := BR.out.cell' rfl
      have z1 : wa.cell? ⟨gr, 14, none⟩ = some (.int .i64 C.R.ngen) := BR.out.cell' rfl
      have y0 := BR.out.frozen 13
      have y1 := BR.out.frozen 14
      go_upto_region 6 with fail
      obtain ⟨w5, hw5⟩ : ∃ z, z = (wa.setCell ⟨gr, 13, none⟩ (.int .i64 s1)).setCell ⟨gr, 14, none⟩ (.int .i64 g1) := ⟨_, rfl⟩
      have K5 := hid_ (hang_set BR.out hw5)
      change Code.wp _ _ _ _ ((wa.setCell ⟨gr, 13, none⟩ (.int .i64 s1)).setCell ⟨gr, 14, none⟩ (.int .i64 g1))
      rw [← hw5]
      clear hw5 x0 x1 z0 z1 y0 y1
      have HRL : Hid (RecReads wa C.R A1 B1) := hid_ RO.out.reads
      replace M1 := hid_ (M1.out.rec9 BR.out K5.out.2)
      replace BH := hid_ (BH.out.fr K5.out.2 (only_ne (Blk.ne_ BH.out BR.out (by decide))))
      replace F1 := hid_ (F1.out.then_only K5.out.2 (.inr HG.out))
      replace RO := hid_ (RO.out.only K5.out.2 BR.out (by decide) (by decide))
      replace BR := hid_ K5.out.1
      clear K5 HRL
      go_cut [38] (fun u wq => ∃ bq, u = .bool bq ∧ w5 = wq)
      case first =>
        cases base with
        | false =>
          go_wp2_with fail
          go_meet
          case rel => exact ⟨_, rfl, rfl⟩
        | true =>
          go_wp2_with fail
          go_meet
          case rel => exact ⟨_, rfl, rfl⟩
      case rest =>
        obtain ⟨bq, rfl, rfl⟩ := hcut
        cases bq with
        | false =>
          go_upto_region 8 with fail
          obtain ⟨s2, g2, hb2, hsg, hfq⟩ : ∃ s2 g2 : Int, Blk w5 gr 41 (recA (C.R.hang s2 g2) (.slice A1 C.R.rows.length c1) (.slice B1 C.R.ents.length d1)) ∧ ((s2 = s1 ∧ g2 = g1) ∨ (s2 = 0 ∧ g2 = 0)) ∧ Fr (only gr) w5 w5 := ⟨_, _, BR.out, .inl ⟨rfl, rfl⟩, Fr.refl _ _⟩
          have HSG := hid_ hsg
          replace M1 := hid_ (M1.out.rec9 BR.out hfq)
          replace BH := hid_ (BH.out.fr hfq (only_ne (Blk.ne_ BH.out BR.out (by decide))))
          replace F1 := hid_ (F1.out.then_only hfq (.inr HG.out))
          replace RO := hid_ (RO.out.only hfq BR.out (by decide) (by decide))
          replace BR := hid_ hb2
          clear hb2 hsg hfq
          go_wp2_with (refine wpList_load_mid rfl 41 (.tmp 9) rfl gr 0 rfl (recA (C.R.hang s2 g2) (.slice A1 C.R.rows.length c1) (.slice B1 C.R.ents.length d1)).toList _ (recA_range BR.out) Tryd.underlying41 rfl rec_size8 ?_)
          refine (memAlloc_any m (kk + 1) l y _ M1.out (by have := HKK.out.1; omega) (by have := HKK.out.2; omega) (C.R.hang s2 g2) A1 c1 B1 d1 (fun w' hf => ⟨(RO.out.only hf M1.out.b (by decide) (by decide)).reads.r, (RO.out.only hf M1.out.b (by decide) (by decide)).reads.e⟩) ⟨by have := HR.out.zr; show C.R.rows.length ≤ 1000; omega, by have := HR.out.ze; show C.R.ents.length ≤ 1000; omega⟩).mono ?_
          rintro e w7 ⟨sl, gn, kc, ss', v7, rfl, hal, hev, hm7, hf7⟩
          have AL := hid_ hal
          have NB : Hid (¬ mall m y gh) := hid_ (M1.out.nref BH.out)
          replace BH := hid_ (BH.out.fr hf7 NB.out)
          have M7 := hid_ hm7
          replace F1 : Hid (Fr (mall m x) wr w7) := hid_ (F1.out.trans hf7 (fun _ _ => id) (fun i _ e => by rw [← P.out.al]; exact e))
          clear hal hm7 hf7 M1 RO BR NB
          go_upto_region 9 with fail
          obtain ⟨w8, hw8⟩ : ∃ z, z = w7.alloc (.cells #[.int .i64 sl, .int .i64 gn] 25) := ⟨_, rfl⟩
          have K8 : Hid (Blk w8 w7.heap.size 25 #[.int .i64 sl, .int .i64 gn] ∧ Fr none_ w7 w8) := hid_ (by rw [hw8]; exact ⟨Blk.new w7 _ _, (Fr.refl none_ w7).alloc _⟩)
          change Code.wp _ _ _ _ (w7.alloc (.cells #[.int .i64 sl, .int .i64 gn] 25))
          rw [← hw8]
          clear hw8
          replace M7 := hid_ (M7.out.keep K8.out.2)
          replace F1 := hid_ (F1.out.then_none K8.out.2)
          replace BH := hid_ (BH.out.fr K8.out.2 id)
          have BX := hid_ K8.out.1
          obtain ⟨gx, hgx⟩ : ∃ g, g = w7.heap.size := ⟨_, rfl⟩
          rw [← hgx] at BX
          rw [← hgx]
          clear hgx K8
          have hnj : n - j' = n - (j' + 1) + 1 := by have := HJ.out; omega
          have HNJ := hid_ hnj
          clear hnj
          rcases hev with ⟨rfl, rfl⟩ | ⟨hc, bF, rfl, -⟩
          · have x0 : w8.cell? ⟨gh, 0, none⟩ = some (.int .i64 s1) := BH.out.cell' rfl
            have x1 : w8.cell? ⟨gh, 1, none⟩ = some (.int .i64 g1) := BH.out.cell' rfl
            have z0 : w8.cell? ⟨gx, 0, none⟩ = some (.int .i64 sl) := BX.out.cell' rfl
            have z1 : w8.cell? ⟨gx, 1, none⟩ = some (.int .i64 gn) := BX.out.cell' rfl
            go_wp2_with fail
            refine (memSwap_any m (kk + 1 + 1) l { y with ss := ss' } _ M7.out (by have := HKK.out.1; omega) (by have := HKK.out.2; omega) 0 s1 g1 sl gn).mono ?_
            rintro e w9 ⟨ok, k3, ps', v9, rfl, hsw, -, hm9, hf9⟩
            have HP : Hid (∃ js2, PuSt m k l x js w (n - (j' + 1) + 1) w9 { y with ss := ss', ps := ps' } js2 sl gn (kk + 1 + 1 + 1)) := hid_ (P.out.hung AL.out (hang_ok HR.out s2 g2) HSG.out hsw hm9 (F1.out.trans hf9 (fun _ _ => id) (fun i _ e => by rw [← P.out.al]; exact e)))
            clear hsw hm9 hf9 x0 x1 z0 z1 M7
            go_wp2_with fail
            go_roundw
            case rel =>
              obtain ⟨js2, hp2⟩ := HP.out
              refine ⟨j', _, js2, sl, gn, _, by have := HJ.out; omega, ?_, by rw [HNJ.out]; exact hp2⟩
              cases j' with
              | zero => exact .inl ⟨rfl, by go_num⟩
              | succ q => exact .inr ⟨q, rfl, by go_num⟩
            case measure => simp [intOf]
          · have HP : Hid (PuSt m k l x js w (n - (j' + 1) + 1) w8 { y with ss := ss' } js1 s1 g1 (kk + 1 + 1)) := hid_ (P.out.failed AL.out M7.out F1.out)
            go_wp2_with fail
            go_roundw
            case rel =>
              refine ⟨j', _, js1, s1, g1, _, by have := HJ.out; omega, ?_, by rw [HNJ.out]; exact HP.out⟩
              cases j' with
              | zero => exact .inl ⟨rfl, by go_num⟩
              | succ q => exact .inr ⟨q, rfl, by go_num⟩
            case measure => simp [intOf]
        | true =>
          have z0 : w5.cell? ⟨gr, 13, none⟩ = some (.int .i64 s1) := BR.out.cell' rfl
          have z1 : w5.cell? ⟨gr, 14, none⟩ = some (.int .i64 g1) := BR.out.cell' rfl
          have y0 := BR.out.frozen 13
          have y1 := BR.out.frozen 14
          go_upto_region 8 with fail
          obtain ⟨w6, hw6⟩ : ∃ z, z = (w5.setCell ⟨gr, 13, none⟩ (.int .i64 0)).setCell ⟨gr, 14, none⟩ (.int .i64 0) := ⟨_, rfl⟩
          have K6 := hid_ (hang_set BR.out hw6)
          change Code.wp _ _ _ _ ((w5.setCell ⟨gr, 13, none⟩ (.int .i64 0)).setCell ⟨gr, 14, none⟩ (.int .i64 0))
          rw [← hw6]
          clear hw6 z0 z1 y0 y1
          obtain ⟨s2, g2, hb2, hsg, hfq⟩ : ∃ s2 g2 : Int, Blk w6 gr 41 (recA (C.R.hang s2 g2) (.slice A1 C.R.rows.length c1) (.slice B1 C.R.ents.length d1)) ∧ ((s2 = s1 ∧ g2 = g1) ∨ (s2 = 0 ∧ g2 = 0)) ∧ Fr (only gr) w5 w6 := ⟨0, 0, K6.out.1, .inr ⟨rfl, rfl⟩, K6.out.2⟩
          clear K6
          have HSG := hid_ hsg
          replace M1 := hid_ (M1.out.rec9 BR.out hfq)
          replace BH := hid_ (BH.out.fr hfq (only_ne (Blk.ne_ BH.out BR.out (by decide))))
          replace F1 := hid_ (F1.out.then_only hfq (.inr HG.out))
          replace RO := hid_ (RO.out.only hfq BR.out (by decide) (by decide))
          replace BR := hid_ hb2
          clear hb2 hsg hfq
          go_wp2_with (refine wpList_load_mid rfl 41 (.tmp 9) rfl gr 0 rfl (recA (C.R.hang s2 g2) (.slice A1 C.R.rows.length c1) (.slice B1 C.R.ents.length d1)).toList _ (recA_range BR.out) Tryd.underlying41 rfl rec_size8 ?_)
          refine (memAlloc_any m (kk + 1) l y _ M1.out (by have := HKK.out.1; omega) (by have := HKK.out.2; omega) (C.R.hang s2 g2) A1 c1 B1 d1 (fun w' hf => ⟨(RO.out.only hf M1.out.b (by decide) (by decide)).reads.r, (RO.out.only hf M1.out.b (by decide) (by decide)).reads.e⟩) ⟨by have := HR.out.zr; show C.R.rows.length ≤ 1000; omega, by have := HR.out.ze; show C.R.ents.length ≤ 1000; omega⟩).mono ?_
          rintro e w7 ⟨sl, gn, kc, ss', v7, rfl, hal, hev, hm7, hf7⟩
          have AL := hid_ hal
          have NB : Hid (¬ mall m y gh) := hid_ (M1.out.nref BH.out)
          replace BH := hid_ (BH.out.fr hf7 NB.out)
          have M7 := hid_ hm7
          replace F1 : Hid (Fr (mall m x) wr w7) := hid_ (F1.out.trans hf7 (fun _ _ => id) (fun i _ e => by rw [← P.out.al]; exact e))
          clear hal hm7 hf7 M1 RO BR NB
          go_upto_region 9 with fail
          obtain ⟨w8, hw8⟩ : ∃ z, z = w7.alloc (.cells #[.int .i64 sl, .int .i64 gn] 25) := ⟨_, rfl⟩
          have K8 : Hid (Blk w8 w7.heap.size 25 #[.int .i64 sl, .int .i64 gn] ∧ Fr none_ w7 w8) := hid_ (by rw [hw8]; exact ⟨Blk.new w7 _ _, (Fr.refl none_ w7).alloc _⟩)
          change Code.wp _ _ _ _ (w7.alloc (.cells #[.int .i64 sl, .int .i64 gn] 25))
          rw [← hw8]
          clear hw8
          replace M7 := hid_ (M7.out.keep K8.out.2)
          replace F1 := hid_ (F1.out.then_none K8.out.2)
          replace BH := hid_ (BH.out.fr K8.out.2 id)
          have BX := hid_ K8.out.1
          obtain ⟨gx, hgx⟩ : ∃ g, g = w7.heap.size := ⟨_, rfl⟩
          rw [← hgx] at BX
          rw [← hgx]
          clear hgx K8
          have hnj : n - j' = n - (j' + 1) + 1 := by have := HJ.out; omega
          have HNJ := hid_ hnj
          clear hnj
          rcases hev with ⟨rfl, rfl⟩ | ⟨hc, bF, rfl, -⟩
          · have x0 : w8.cell? ⟨gh, 0, none⟩ = some (.int .i64 s1) := BH.out.cell' rfl
            have x1 : w8.cell? ⟨gh, 1, none⟩ = some (.int .i64 g1) := BH.out.cell' rfl
            have z0 : w8.cell? ⟨gx, 0, none⟩ = some (.int .i64 sl) := BX.out.cell' rfl
            have z1 : w8.cell? ⟨gx, 1, none⟩ = some (.int .i64 gn) := BX.out.cell' rfl
            go_wp2_with fail
            refine (memSwap_any m (kk + 1 + 1) l { y with ss := ss' } _ M7.out (by have := HKK.out.1; omega) (by have := HKK.out.2; omega) 0 s1 g1 sl gn).mono ?_
            rintro e w9 ⟨ok, k3, ps', v9, rfl, hsw, -, hm9, hf9⟩
            have HP : Hid (∃ js2, PuSt m k l x js w (n - (j' + 1) + 1) w9 { y with ss := ss', ps := ps' } js2 sl gn (kk + 1 + 1 + 1)) := hid_ (P.out.hung AL.out (hang_ok HR.out s2 g2) HSG.out hsw hm9 (F1.out.trans hf9 (fun _ _ => id) (fun i _ e => by rw [← P.out.al]; exact e)))
            clear hsw hm9 hf9 x0 x1 z0 z1 M7
            go_wp2_with fail
            go_roundw
            case rel =>
              obtain ⟨js2, hp2⟩ := HP.out
              refine ⟨j', _, js2, sl, gn, _, by have := HJ.out; omega, ?_, by rw [HNJ.out]; exact hp2⟩
              cases j' with
              | zero => exact .inl ⟨rfl, by go_num⟩
              | succ q => exact .inr ⟨q, rfl, by go_num⟩
            case measure => simp [intOf]
          · have HP : Hid (PuSt m k l x js w (n - (j' + 1) + 1) w8 { y with ss := ss' } js1 s1 g1 (kk + 1 + 1)) := hid_ (P.out.failed AL.out M7.out F1.out)
            go_wp2_with fail
            go_roundw
            case rel =>
              refine ⟨j', _, js1, s1, g1, _, by have := HJ.out; omega, ?_, by rw [HNJ.out]; exact HP.out⟩
              cases j' with
              | zero => exact .inl ⟨rfl, by go_num⟩
              | succ q => exact .inr ⟨q, rfl, by go_num⟩
            case measure => simp [intOf]
end Go.Proofs.YtfihfjbakfadkaaDoor
namespace Go.Proofs.YtfihfjbakfadkaaDoor
open Go.RowKit Go.BigFrame
set_option maxRecDepth 100000
set_option linter.unusedVariables false
theorem few10_ok (A : Option Addr) (n cap : Nat) (L : List Ch) (w : World) (h : InReads w A n L) (hw : RwIn L) (hm : n ≤ maxLen) : Calls Tryd.prog 18 #[.slice A n cap] w fun e w' => ∃ b : Bool, e = .returned (.bool b) ∧ (b = true → FewOk7 L ∧ FewOk8 L ∧ n ≤ 40) ∧ Fr none_ w w' := by
  have H := hid_ h
  have HW := hid_ hw
  have hn0 : (0 : Int) ≤ (n : Int) := Int.natCast_nonneg _
  clear h hw
  go_enter Tryd.func18, Tryd.ntmps18
  by_cases h40 : n ≤ 40
  · have d0 : decide ((n : Int) ≤ 40) = true := by simp; omega
    have H40 := hid_ h40
    clear h40
    go_wp2_with fail
    refine (few7_ok A n cap L w H.out HW.out hm).mono ?_
    rintro e w1 ⟨b, rfl, hb, hf⟩
    have G0 := hid_ hb
    have F1 := hid_ hf
    clear hb hf
    cases b with
    | false =>
      go_wp2_with fail
      go_ret
      exact ⟨false, rfl, (fun h => by cases h), F1.out⟩
    | true =>
      go_wp2_with fail
      refine (few8_ok A n cap L w1 (H.out.keep F1.out) hm).mono ?_
      rintro e w2 ⟨b, rfl, hb, hf⟩
      have G1 := hid_ hb
      replace F1 := hid_ (F1.out.then_none hf)
      clear hb hf
      cases b with
      | false =>
        go_wp2_with fail
        go_ret
        exact ⟨false, rfl, (fun h => by cases h), F1.out⟩
      | true =>
        go_wp2_with fail
        go_ret
        exact ⟨true, rfl, (fun _ => ⟨G0.out trivial, G1.out trivial, H40.out⟩), F1.out⟩
  · have d0 : decide ((n : Int) ≤ 40) = false := by simp; omega
    clear h40
    go_wp2_with fail
    go_ret
    exact ⟨false, rfl, (fun h => by cases h), Fr.refl _ _⟩
/-- A value that may take another's place in p's own rows: a text may have grown by d. -/
def KS (d : Nat) (v v' : Value) : Prop := v' = v ∨ (∃ s s', v = .string s ∧ v' = .string s' ∧ s'.size ≤ s.size + d) ∨ (∃ a b, v = .int .i64 a ∧ v' = .int .i64 b)
theorem KS.refl (d : Nat) (v : Value) : KS d v v := .inl rfl
theorem KS.trans {d e : Nat} {a b c : Value} (h : KS d a b) (k : KS e b c) : KS (d + e) a c := by
  rcases h with rfl | ⟨s, s', rfl, rfl, h1⟩ | ⟨x, y, rfl, rfl⟩
  · rcases k with rfl | ⟨t, t', rfl, rfl, h2⟩ | h
    · exact .inl rfl
    · exact .inr (.inl ⟨t, t', rfl, rfl, by omega⟩)
    · exact .inr (.inr h)
  · rcases k with rfl | ⟨t, t', h0, rfl, h2⟩ | ⟨x, y, h0, _⟩
    · exact .inr (.inl ⟨s, s', rfl, rfl, by omega⟩)
    · cases h0
      exact .inr (.inl ⟨s, t', rfl, rfl, by omega⟩)
    · cases h0
  · rcases k with rfl | ⟨t, t', h1, _⟩ | ⟨x', y', h1, rfl⟩
    · exact .inr (.inr ⟨x, y, rfl, rfl⟩)
    · cases h1
    · exact .inr (.inr ⟨x, y', rfl, rfl⟩)
/-- Blocks keep their kinds. -/
def Sh (d : Nat) (w w' : World) : Prop := ∀ g t cs, Blk w g t cs → ∃ cs', Blk w' g t cs' ∧ ∀ (i : Nat) (v : Value), cs[i]? = some v → ∃ v', cs'[i]? = some v' ∧ KS d v v'
theorem Sh.refl (w : World) : Sh 0 w w := fun g t cs h => ⟨cs, h, fun i v hv => ⟨v, hv, KS.refl 0 v⟩⟩
theorem Sh.trans {d e : Nat} {a b c : World} (h : Sh d a b) (k : Sh e b c) : Sh (d + e) a c := fun g t cs hb => by
  obtain ⟨c1, h1, e1⟩ := h g t cs hb
  obtain ⟨c2, h2, e2⟩ := k g t c1 h1
  refine ⟨c2, h2, fun i v hv => ?_⟩
  obtain ⟨v1, hv1, k1⟩ := e1 i v hv
  obtain ⟨v2, hv2, k2⟩ := e2 i v1 hv1
  exact ⟨v2, hv2, k1.trans k2⟩
theorem Sh.set_ {d : Nat} {w : World} {g : Nat} {t : TypeId} {cs : Array Value} (hb : Blk w g t cs) {i : Nat} {v v' : Value} (hv : cs[i]? = some v) (hk : KS d v v') : Sh d w (w.setCell ⟨g, i, none⟩ v') := fun g2 t2 cs2 hb2 => by
  by_cases h : g2 = g
  · subst h
    obtain ⟨rfl, rfl⟩ : t2 = t ∧ cs2 = cs := by
      have h1 : w.heap[g2]? = _ := hb
      have h2 : w.heap[g2]? = _ := hb2
      rw [h1] at h2
      cases h2
      exact ⟨rfl, rfl⟩
    refine ⟨_, hb.set_ i v', fun j u hu => ?_⟩
    rw [Array.getElem?_setIfInBounds]
    by_cases hij : i = j
    · subst hij
      rw [hv] at hu
      cases hu
      have hl : i < cs2.size := (Array.getElem?_eq_some_iff.1 hv).1
      simp [hl]
      exact hk
    · simp [hij]
      exact ⟨u, hu, KS.refl d u⟩
  · exact ⟨cs2, hb2.fr (Fr.only1 w ⟨g, i, none⟩ v') h, fun j u hu => ⟨u, hu, KS.refl d u⟩⟩
end Go.Proofs.YtfihfjbakfadkaaDoor
namespace Go.Proofs.YtfihfjbakfadkaaDoor
open Go.RowKit
set_option maxRecDepth 100000
set_option linter.unusedVariables false

theorem leaves_U8 : leaves Tryd.prog 6 5 = [(0, .int .u8)] := by kernel_rfl
theorem cells_U8 : Tryd.prog.cellsOf 5 = 1 := by kernel_rfl
def U8Reads (w : World) (A : Option Addr) (n : Nat) (N : List Int) : Prop :=
  N.length = n ∧ (0 < n → ∃ b off, A = some ⟨b, off, none⟩ ∧ b < w.heap.size ∧ ∀ k x, N[k]? = some x → w.cell? ⟨b, off + k, none⟩ = some (.int .u8 x) ∧ 0 ≤ x ∧ x ≤ 255)
theorem U8_at {H : Type} {enc : TypeId × Value → H} {w : World} {A : Option Addr} {n : Nat} (h : Rd enc Tryd.prog w 6 5 A n) : ∃ N, U8Reads w A n N := by
  rcases Nat.eq_zero_or_pos n with h0 | h0
  · subst h0; exact ⟨[], rfl, fun h => absurd h (by omega)⟩
  · obtain ⟨b, off, hA, hb, hc⟩ := h h0
    obtain ⟨L, hl, hL⟩ := choose_list (α := Int) (P := fun k x => w.cell? ⟨b, off + k, none⟩ = some (.int .u8 x) ∧ 0 ≤ x ∧ x ≤ 255) n (fun k hk => by
      have hk := hc k hk
      rw [leaves_U8, cells_U8] at hk
      obtain ⟨_, h0, x0, rfl, w0⟩ := hk 0 (.int .u8) (by simp)
      exact ⟨x0, by simpa using h0, (wf_u8 w0).1, (wf_u8 w0).2⟩)
    exact ⟨L, hl, fun _ => ⟨b, off, hA, hb, hL⟩⟩
theorem U8Reads.keep {w w' : World} {A : Option Addr} {n : Nat} {L : List Int} (h : U8Reads w A n L) (hf : Fr none_ w w') : U8Reads w' A n L :=
  ⟨h.1, fun hn => by
    obtain ⟨b, off, hA, hb, hc⟩ := h.2 hn
    exact ⟨b, off, hA, by have := hf.size; omega, fun k p hp => ⟨cellFr (hc k p hp).1 hf, (hc k p hp).2⟩⟩⟩
theorem U8Reads.at_ {w : World} {A : Option Addr} {n : Nat} {L : List Int} (h : U8Reads w A n L) {k : Nat} (hk : k < n) : ∃ b off x, A = some ⟨b, off, none⟩ ∧ b < w.heap.size ∧ w.cell? ⟨b, off + k, none⟩ = some (.int .u8 x) ∧ 0 ≤ x ∧ x ≤ 255 := by
  obtain ⟨b, off, hA, hb, hc⟩ := h.2 (by omega)
  have hl := h.1
  have hp : L[k]? = some (L[k]'(by omega)) := List.getElem?_eq_getElem (by omega)
  have hx := hc k _ hp
  exact ⟨b, off, _, hA, hb, hx.1, hx.2.1, hx.2.2⟩
end Go.Proofs.YtfihfjbakfadkaaDoor

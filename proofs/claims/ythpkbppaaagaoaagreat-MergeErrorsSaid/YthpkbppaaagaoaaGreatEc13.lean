/- A loader's Page of an inner page, and of an error. Written by gen_ec13.py. -/
import Derived.Test.YthpkbppaaagaoaaGreatMhK
import Derived.Test.YthpkbppaaagaoaaGreatEb13
namespace Go.Proofs.YthpkbppaaagaoaaGreat
open Go.RowKit Go.BigFrame
set_option maxRecDepth 100000
set_option linter.unusedVariables false
/-- What a call of Of told of an inner page. -/
def LdMadeI (s : LdS) (w : World) (v : Value) (w' : World) : Prop :=
  (∃ (V : Vw) (C : Option Addr) (nc x : Nat) (D : Option Addr) (nr y : Nat) (A : Option Addr) (c : Nat), v = .tuple #[.agg (pgA s.n s.hs s.hg (.slice C nc x) (.slice D nr y) false Lw.zero (.slice none 0 0) V (.slice A V.ents.length c)), .nilIface]) ∧ Fr none_ w w'
theorem LdMadeI.shape {s : LdS} {w w' : World} {v : Value} (h : LdMadeI s w v w') : ∃ (pv : Array Value) (ev : Value), v = .tuple #[.agg pv, ev] ∧ pv.size = 21 ∧ pv.all (·.oneCell') = true := by
  obtain ⟨⟨V, C, nc, x, D, nr, y, A, c, h1⟩, _⟩ := h
  exact ⟨_, _, h1, rfl, by simp [Value.oneCell']⟩
theorem LdMadeI.then_ {s : LdS} {w w0 w1 w' : World} {v : Value} {X : Nat} (h : LdMadeI s w0 v w1) (h0 : Fr none_ w w0) (hf : Fr (only X) w1 w') (hn : w.heap.size ≤ X) : LdMadeI s w v w' :=
  ⟨h.1, (h0.then_none h.2).then_only hf (.inr hn)⟩
def OneI (s : LdS) : Prop := s.L.length = 1 ∧ (∀ C ∈ s.L, RcOk C.R) ∧ (∀ C ∈ s.L, C.R.rows.length ≤ 1000 ∧ C.R.ents.length ≤ 500 ∧ C.R.kind = 7 ∧ Sound (baseV C.R)) ∧ s.refs.length ≤ 5000
set_option maxHeartbeats 4000000 in
theorem ldMadeI_ok {b0 g bx : Nat} {w : World} {s : LdS} (h : Ldr b0 w g s) (hx : Blk w bx 97 #[.pointer (some ⟨g, 0, none⟩)]) (hs : OneI s) :
    Calls Tryz.prog 99 #[.pointer (some ⟨bx, 0, none⟩)] w fun e w' => ∃ v, e = .returned v ∧ LdMadeI s w v w' := by
  obtain ⟨w0, hw0⟩ : ∃ z, z = w.alloc (.cells pgZ 140) := ⟨_, rfl⟩
  have f0 : Fr none_ w w0 := by rw [hw0]; exact (Fr.refl none_ w).alloc _
  have BZ : Hid (Blk w0 w.heap.size 140 pgZ) := hid_ (by rw [hw0]; exact Blk.new w _ _)
  have H := hid_ (h.keep f0)
  have BX := hid_ (hx.fr f0 id)
  have F0 := hid_ f0
  have HS := hid_ hs
  have hsz0 := BZ.out.lt
  clear h hx hs f0
  go_enter Tryz.func99, Tryz.ntmps99
  go_upto_region 1 with fail
  change Code.wp _ _ _ _ (w.alloc (.cells pgZ 140))
  rw [← hw0]
  clear hw0
  have hS0 : (fun w' : World => Blk w' g 135 (ldA s) ∧ Blk w' bx 97 #[.pointer (some ⟨g, 0, none⟩)]) w0.drew := ⟨H.out.b.drew, BX.out.drew⟩
  refine wp_region_u 21 (fun w' : World => Blk w' g 135 (ldA s) ∧ Blk w' bx 97 #[.pointer (some ⟨g, 0, none⟩)]) (by kernel_rfl) ?_
  refine u_take 0 (some 3) (.pointer (some ⟨g, 0, none⟩)) rfl rfl (by kernel_rfl) (by kernel_rfl) (by kernel_rfl) (by kernel_rfl) (fun _ _ _ h => h) (y_cell 97 (.tmp 0) ⟨bx, 0, none⟩ _ (by kernel_rfl) rfl (by kernel_rfl) (fun w' hS => hS.2.cell' rfl) Tryz.underlying97 rfl) hS0 ?_
  go_frame
  refine u_take 1 (some 4) (.pointer (some ⟨g, 0, none⟩)) rfl rfl (by kernel_rfl) (by kernel_rfl) (by kernel_rfl) (by kernel_rfl) (fun _ _ _ h => h) (y_val (by kernel_rfl) (fun w' hS => by kernel_rfl)) hS0 ?_
  go_frame
  refine u_take 2 (some 5) (.pointer (some ⟨g, 0, none⟩)) rfl rfl (by kernel_rfl) (by kernel_rfl) (by kernel_rfl) (by kernel_rfl) (fun _ _ _ h => h) (y_val (by kernel_rfl) (fun w' hS => by kernel_rfl)) hS0 ?_
  go_frame
  refine u_take 3 (some 6) (.int .i64 s.n) rfl rfl (by kernel_rfl) (by kernel_rfl) (by kernel_rfl) (by kernel_rfl) (fun _ _ _ h => h) (y_cell 3 (.tmp 5) ⟨g, 0, none⟩ _ (by kernel_rfl) rfl (by kernel_rfl) (fun w' hS => hS.1.cell' rfl) Tryz.underlying3 rfl) hS0 ?_
  go_frame
  refine u_take 4 (some 7) (.pointer (some ⟨g, 0, none⟩)) rfl rfl (by kernel_rfl) (by kernel_rfl) (by kernel_rfl) (by kernel_rfl) (fun _ _ _ h => h) (y_cell 97 (.tmp 0) ⟨bx, 0, none⟩ _ (by kernel_rfl) rfl (by kernel_rfl) (fun w' hS => hS.2.cell' rfl) Tryz.underlying97 rfl) hS0 ?_
  go_frame
  refine u_take 5 (some 8) (.pointer (some ⟨g, 0, none⟩)) rfl rfl (by kernel_rfl) (by kernel_rfl) (by kernel_rfl) (by kernel_rfl) (fun _ _ _ h => h) (y_val (by kernel_rfl) (fun w' hS => by kernel_rfl)) hS0 ?_
  go_frame
  refine u_take 6 (some 9) (.pointer (some ⟨g, 3, none⟩)) rfl rfl (by kernel_rfl) (by kernel_rfl) (by kernel_rfl) (by kernel_rfl) (fun _ _ _ h => h) (y_val (by kernel_rfl) (fun w' hS => by kernel_rfl)) hS0 ?_
  go_frame
  refine u_take 7 (some 10) (.agg #[.int .i64 s.hs, .int .i64 s.hg]) rfl rfl (by kernel_rfl) (by kernel_rfl) (by kernel_rfl) (by kernel_rfl) (fun _ _ _ h => h) (yieldsIf_load_mid (by kernel_rfl) 36 (.tmp 9) rfl g 3 (by kernel_rfl) [.int .i64 s.hs, .int .i64 s.hg] _ (fun w' hS => ld_range3 hS.1) Tryz.underlying36 rfl ref_size9) hS0 ?_
  go_frame
  refine u_take 8 (some 11) (.pointer (some ⟨g, 0, none⟩)) rfl rfl (by kernel_rfl) (by kernel_rfl) (by kernel_rfl) (by kernel_rfl) (fun _ _ _ h => h) (y_cell 97 (.tmp 0) ⟨bx, 0, none⟩ _ (by kernel_rfl) rfl (by kernel_rfl) (fun w' hS => hS.2.cell' rfl) Tryz.underlying97 rfl) hS0 ?_
  go_frame
  refine u_take 9 (some 12) (.pointer (some ⟨g, 0, none⟩)) rfl rfl (by kernel_rfl) (by kernel_rfl) (by kernel_rfl) (by kernel_rfl) (fun _ _ _ h => h) (y_val (by kernel_rfl) (fun w' hS => by kernel_rfl)) hS0 ?_
  go_frame
  refine u_take 10 (some 13) (.pointer (some ⟨g, 7, none⟩)) rfl rfl (by kernel_rfl) (by kernel_rfl) (by kernel_rfl) (by kernel_rfl) (fun _ _ _ h => h) (y_val (by kernel_rfl) (fun w' hS => by kernel_rfl)) hS0 ?_
  go_frame
  refine u_take 11 (some 14) (.slice s.A s.L.length s.c) rfl rfl (by kernel_rfl) (by kernel_rfl) (by kernel_rfl) (by kernel_rfl) (fun _ _ _ h => h) (y_cell 67 (.tmp 13) ⟨g, 7, none⟩ _ (by kernel_rfl) rfl (by kernel_rfl) (fun w' hS => hS.1.cell' rfl) Tryz.underlying67 rfl) hS0 ?_
  go_frame
  refine u_take 12 (some 15) (.pointer (some ⟨g, 0, none⟩)) rfl rfl (by kernel_rfl) (by kernel_rfl) (by kernel_rfl) (by kernel_rfl) (fun _ _ _ h => h) (y_cell 97 (.tmp 0) ⟨bx, 0, none⟩ _ (by kernel_rfl) rfl (by kernel_rfl) (fun w' hS => hS.2.cell' rfl) Tryz.underlying97 rfl) hS0 ?_
  go_frame
  refine u_take 13 (some 16) (.pointer (some ⟨g, 0, none⟩)) rfl rfl (by kernel_rfl) (by kernel_rfl) (by kernel_rfl) (by kernel_rfl) (fun _ _ _ h => h) (y_val (by kernel_rfl) (fun w' hS => by kernel_rfl)) hS0 ?_
  go_frame
  refine u_take 14 (some 17) (.pointer (some ⟨g, 8, none⟩)) rfl rfl (by kernel_rfl) (by kernel_rfl) (by kernel_rfl) (by kernel_rfl) (fun _ _ _ h => h) (y_val (by kernel_rfl) (fun w' hS => by kernel_rfl)) hS0 ?_
  go_frame
  refine u_take 15 (some 18) (.slice s.B s.refs.length s.e) rfl rfl (by kernel_rfl) (by kernel_rfl) (by kernel_rfl) (by kernel_rfl) (fun _ _ _ h => h) (y_cell 68 (.tmp 17) ⟨g, 8, none⟩ _ (by kernel_rfl) rfl (by kernel_rfl) (fun w' hS => hS.1.cell' rfl) Tryz.underlying68 rfl) hS0 ?_
  go_frame
  clear hS0
  refine u_callE 16 (some 19) 100 #[.int .i64 s.n, .agg #[.int .i64 s.hs, .int .i64 s.hg], .slice s.A s.L.length s.c, .slice s.B s.refs.length s.e] (fun v w' => LdMadeI s w v w' ∧ Fr none_ w0 w') rfl rfl (by kernel_rfl) (by kernel_rfl) (by kernel_rfl) ((of_okI s.n s.hs s.hg s.A s.L.length s.c (s.L.map toCh) s.refs s.B s.e w0.drew ((H.out.ch HS.out.2.1).keep (Fr.refl none_ w0).drew) HS.out.1 (fun Z hZ => by obtain ⟨Y, hY, rfl⟩ := List.mem_map.1 hZ; exact HS.out.2.2.1 Y hY) (Reads.of_own (own_none H.out.r (Fr.refl none_ w0).drew)) HS.out.2.2.2).mono (fun e w' hh => ?_)) ?_
  · obtain ⟨V, C, nc, x, D, nr, y, A, c, rfl, hfr⟩ := hh
    exact ⟨_, rfl, ⟨⟨V, C, nc, x, D, nr, y, A, c, rfl⟩, (F0.out.then_none (Fr.refl none_ w0).drew).then_none hfr⟩, (Fr.refl none_ w0).drew.then_none hfr⟩
  intro v w5 hh
  obtain ⟨pv, ev, rfl, hps, hpo⟩ := hh.1.shape
  have LM := hid_ hh.1
  have BZ5 := hid_ (BZ.out.fr hh.2 id)
  have hS5 : (fun w' : World => Blk w' g 135 (ldA s) ∧ Blk w' bx 97 #[.pointer (some ⟨g, 0, none⟩)]) w5 := ⟨H.out.b.fr hh.2 id, BX.out.fr hh.2 id⟩
  have FR5 := hid_ hh.2
  have hsz5 := hh.2.size
  clear hh
  refine ⟨hS5, ?_⟩
  go_frame
  refine u_take 17 (some 20) (.agg pv) rfl rfl (by kernel_rfl) (by kernel_rfl) (by kernel_rfl) (by kernel_rfl) (fun _ _ _ h => h) (y_val (by kernel_rfl) (fun w' hS => by kernel_rfl)) hS5 ?_
  go_frame
  refine u_take 18 (some 21) (ev) rfl rfl (by kernel_rfl) (by kernel_rfl) (by kernel_rfl) (by kernel_rfl) (fun _ _ _ h => h) (y_val (by kernel_rfl) (fun w' hS => by kernel_rfl)) hS5 ?_
  go_frame
  clear hS5
  have S5 : Hid ((fun w' : World => Blk w' g 135 (ldA s) ∧ Blk w' bx 97 #[.pointer (some ⟨g, 0, none⟩)]) w5) := hid_ ⟨H.out.b.fr FR5.out id, BX.out.fr FR5.out id⟩
  refine u_store 19 140 (.tmp 1) (.tmp 20) w.heap.size 0 pv rfl rfl (by kernel_rfl) (by kernel_rfl) rfl (by kernel_rfl) (by kernel_rfl) (by rw [hps]; exact BZ5.out.there7 rfl) (by rw [hps]; exact page_size) hpo ?_
  intro w6 hw6
  have ov := BZ5.out.over7 pv.toList (by simp [hps])
  rw [← hw6] at ov
  have OV := hid_ ov
  have LM6 := hid_ (LM.out.then_ (Fr.refl none_ w) ov.2 (Nat.le_refl _))
  have S6 : Hid ((fun w' : World => Blk w' g 135 (ldA s) ∧ Blk w' bx 97 #[.pointer (some ⟨g, 0, none⟩)]) w6) := hid_ ⟨S5.out.1.fr ov.2 (only_ne (Blk.ne_ S5.out.1 BZ5.out (by decide))), S5.out.2.fr ov.2 (only_ne (Blk.ne_ S5.out.2 BZ5.out (by decide)))⟩
  clear hw6 ov
  refine ⟨S6.out, ?_⟩
  refine u_run 20 (some 2) ev w6 rfl rfl (by kernel_rfl) (by kernel_rfl) (by kernel_rfl) (.inr S6.out) ?_
  go_frame
  refine u_done (by kernel_rfl) ?_
  go_wp2_with fail
  refine bodyPost_ret (results_cell_tmp7 _ _ rfl w.heap.size 0 pv.toList _ rfl (Blk.range7 (l := pv.toList) (by simpa using OV.out.1)) Tryz.underlying140 rfl (by rw [Array.length_toList, hps]; exact page_size)) rfl ⟨_, rfl, ?_⟩
  simpa using LM6.out
set_option maxHeartbeats 4000000 in
theorem ldPage_err {b0 g : Nat} {w : World} {s : LdS} (t : TypeId) (u : Value) (h : Ldr b0 w g s) (ho : s.over = true) (hv : s.ve = .iface t u) : Calls Tryz.prog 79 #[.pointer (some ⟨g, 0, none⟩)] w fun e w' => e = .returned (.tuple #[.agg pgZ, .iface t u]) ∧ Fr none_ w w' := by
  obtain ⟨w0, hw0, f0, bx, bz⟩ := page_boxes w (.pointer (some ⟨g, 0, none⟩))
  have BX := hid_ bx
  have BZ := hid_ bz
  have F0 := hid_ f0
  have H := hid_ (h.keep f0)
  have x0 : w0.cell? ⟨w.heap.size, 0, none⟩ = some (.pointer (some ⟨g, 0, none⟩)) := bx.cell' rfl
  have g2 : w0.cell? ⟨g, 2, none⟩ = some (.bool true) := by rw [← ho]; exact H.out.b.cell' rfl
  have g9 : w0.cell? ⟨g, 9, none⟩ = some (.iface t u) := by rw [← hv]; exact H.out.b.cell' rfl
  have HV := hid_ hv
  clear bx bz f0 h ho hv
  go_enter Tryz.func79, Tryz.ntmps79
  go_upto_region 1 with fail
  change Code.wp _ _ _ _ ((w.alloc (.cells #[.pointer (some ⟨g, 0, none⟩)] 97)).alloc (.cells pgZ 140))
  rw [← hw0]
  clear hw0
  go_wp2_with fail
  have hS0 : (fun w' : World => Blk w' g 135 (ldA s) ∧ Blk w' w.heap.size 97 #[.pointer (some ⟨g, 0, none⟩)]) w0.drew := ⟨H.out.b.drew, BX.out.drew⟩
  refine wp_region_u 7 (fun w' : World => Blk w' g 135 (ldA s) ∧ Blk w' w.heap.size 97 #[.pointer (some ⟨g, 0, none⟩)]) (by kernel_rfl) ?_
  refine u_take 0 (some 25) (.agg pgZ) rfl rfl (by kernel_rfl) (by kernel_rfl) (by kernel_rfl) (by kernel_rfl) (fun _ _ _ h => h) (y_val (by kernel_rfl) (fun w' hS => by kernel_rfl)) hS0 ?_
  go_frame
  refine u_take 1 (some 26) (.pointer (some ⟨g, 0, none⟩)) rfl rfl (by kernel_rfl) (by kernel_rfl) (by kernel_rfl) (by kernel_rfl) (fun _ _ _ h => h) (y_cell 97 (.tmp 1) ⟨w.heap.size, 0, none⟩ _ (by kernel_rfl) rfl (by kernel_rfl) (fun w' hS => hS.2.cell' rfl) Tryz.underlying97 rfl) hS0 ?_
  go_frame
  refine u_take 2 (some 27) (.pointer (some ⟨g, 0, none⟩)) rfl rfl (by kernel_rfl) (by kernel_rfl) (by kernel_rfl) (by kernel_rfl) (fun _ _ _ h => h) (y_val (by kernel_rfl) (fun w' hS => by kernel_rfl)) hS0 ?_
  go_frame
  refine u_take 3 (some 28) (.pointer (some ⟨g, 9, none⟩)) rfl rfl (by kernel_rfl) (by kernel_rfl) (by kernel_rfl) (by kernel_rfl) (fun _ _ _ h => h) (y_val (by kernel_rfl) (fun w' hS => by kernel_rfl)) hS0 ?_
  go_frame
  refine u_take 4 (some 29) (.iface t u) rfl rfl (by kernel_rfl) (by kernel_rfl) (by kernel_rfl) (by kernel_rfl) (fun _ _ _ h => h) (y_cell 45 (.tmp 28) ⟨g, 9, none⟩ _ (by kernel_rfl) rfl (by kernel_rfl) (fun w' hS => by rw [← HV.out]; exact hS.1.cell' rfl) Tryz.underlying45 rfl) hS0 ?_
  go_frame
  clear hS0 x0 g2 g9
  refine u_store 5 140 (.tmp 2) (.tmp 25) (w.heap.size + 1) 0 pgZ rfl rfl (by kernel_rfl) (by kernel_rfl) rfl (by kernel_rfl) (by kernel_rfl) (BZ.out.drew.there7 rfl) page_size (by simp [Value.oneCell']) ?_
  intro w6 hw6
  have ov := BZ.out.drew.over7 pgZ.toList rfl
  rw [← hw6] at ov
  have OV := hid_ ov
  have S6 : Hid ((fun w' : World => Blk w' g 135 (ldA s) ∧ Blk w' w.heap.size 97 #[.pointer (some ⟨g, 0, none⟩)]) w6) := hid_ ⟨H.out.b.drew.fr ov.2 (only_ne (Blk.ne_ H.out.b BZ.out (by decide))), BX.out.drew.fr ov.2 (only_ne (by omega))⟩
  clear hw6 ov
  refine ⟨S6.out, ?_⟩
  refine u_run 6 (some 3) (.iface t u) w6 rfl rfl (by kernel_rfl) (by kernel_rfl) (by kernel_rfl) (.inr S6.out) ?_
  go_frame
  refine u_done (by kernel_rfl) ?_
  go_wp2_with fail
  exact bodyPost_ret (results_cell_tmp7 _ _ rfl (w.heap.size + 1) 0 pgZ.toList _ rfl (Blk.range7 (l := pgZ.toList) OV.out.1) Tryz.underlying140 rfl page_size) rfl ⟨rfl, F0.out.drew.then_only OV.out.2 (.inr (by omega))⟩
set_option maxHeartbeats 4000000 in
theorem ldPageI_made {b0 g : Nat} {w : World} {s : LdS} (h : Ldr b0 w g s) (ho : s.over = true) (hv : s.ve = .nilIface) (hs : OneI s) :
    Calls Tryz.prog 79 #[.pointer (some ⟨g, 0, none⟩)] w fun e w' => ∃ v, e = .returned v ∧ LdMadeI s w v w' := by
  obtain ⟨w0, hw0, f0, bx, bz⟩ := page_boxes w (.pointer (some ⟨g, 0, none⟩))
  have BX := hid_ bx
  have BZ := hid_ bz
  have F0 := hid_ f0
  have H := hid_ (h.keep f0)
  have HS := hid_ hs
  have x0 : w0.cell? ⟨w.heap.size, 0, none⟩ = some (.pointer (some ⟨g, 0, none⟩)) := bx.cell' rfl
  have g2 : w0.cell? ⟨g, 2, none⟩ = some (.bool true) := by rw [← ho]; exact H.out.b.cell' rfl
  have g9 : w0.cell? ⟨g, 9, none⟩ = some .nilIface := by rw [← hv]; exact H.out.b.cell' rfl
  have hsz0 := f0.size
  have hbl := bz.lt
  clear bx bz f0 h ho hv hs
  go_enter Tryz.func79, Tryz.ntmps79
  go_upto_region 1 with fail
  change Code.wp _ _ _ _ ((w.alloc (.cells #[.pointer (some ⟨g, 0, none⟩)] 97)).alloc (.cells pgZ 140))
  rw [← hw0]
  clear hw0
  go_wp2_with fail
  refine (ldMadeI_ok H.out BX.out HS.out).mono ?_
  rintro e w5 ⟨v, rfl, hm⟩
  obtain ⟨pv, ev, rfl, hps, hpo⟩ := hm.shape
  have LM := hid_ hm
  have BZ5 := hid_ (BZ.out.fr hm.2 id)
  clear hm x0 g2 g9
  go_wp2_with (refine wpList_store_mid rfl 140 (.tmp 2) (.tmp 32) rfl (w.heap.size + 1) 0 pv rfl rfl (by rw [hps]; exact BZ5.out.there7 rfl) (by rw [hps]; exact page_size) hpo ?_; have ov := BZ5.out.over7 pv.toList (by simp [hps]); obtain ⟨w9, hw9⟩ : ∃ z, z = w5.setCells (w.heap.size + 1) 0 pv.toList := ⟨_, rfl⟩; rw [← hw9] at ov; change wpList _ _ _ _ _ (w5.setCells (w.heap.size + 1) 0 pv.toList); rw [← hw9]; have OV := hid_ ov; clear hw9 ov)
  refine bodyPost_ret (results_cell_tmp7 _ _ rfl (w.heap.size + 1) 0 pv.toList _ rfl (Blk.range7 (l := pv.toList) (by simpa using OV.out.1)) Tryz.underlying140 rfl (by rw [Array.length_toList, hps]; exact page_size)) rfl ⟨_, rfl, ?_⟩
  have hfin := LM.out.then_ F0.out OV.out.2 (by omega)
  simpa using hfin
end Go.Proofs.YthpkbppaaagaoaaGreat

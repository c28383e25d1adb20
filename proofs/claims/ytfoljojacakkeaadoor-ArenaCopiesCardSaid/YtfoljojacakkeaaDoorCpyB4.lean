/- The kit's Arena.Copy by contract. Written by gen_cpy4.py. -/
import Derived.Test.YtfoljojacakkeaaDoorCpy4
import Derived.Test.YtfoljojacakkeaaDoorRb4
import Derived.Deep.DeepCutAuto
namespace Go.Proofs.YtfoljojacakkeaaDoor
open Go.RowKit
set_option maxRecDepth 100000
set_option linter.unusedVariables false
section
variable {P : Program} {md : Region.Mode} {ops : Array Oper} {Q : Exit → Act → World → Prop} {S : World → Prop} {m fuel : Nat} {listed : Array Bool} {a : Act} {w : World} {oi : Oper}
/-- The one operation that is ready makes memory. -/
theorem u_step (i : Nat) (d : Option Tmp) (v : Value) (w' : World) (hi : ops[i]? = some oi) (hd : oi.dst = d) (hw : Region.wanted oi (yielded ops a.tmps) = true) (hr : Region.ready md ops listed = [i])
    (hx : (execOp a.eval oi).run P w = .ok (.value v) w') (h : S w' ∧ UwA P md ops Q S m fuel (listed.setIfInBounds i true) (a.put d v) w') : UwA P md ops Q S m (fuel + 1) listed a w := by
  subst hd
  refine u_one i hi hw hr ?_
  unfold Oper.wp
  rw [hx]
  exact ⟨.inr h.1, h.2⟩
end
theorem arCopy_nil (w : World) : Calls Tryd.prog 19 #[.pointer none] w fun e w' => e = .returned (.pointer none) ∧ Fr none_ w w' := by
  go_enter Tryd.func19, Tryd.ntmps19
  go_wp2_with fail
  go_ret
  exact ⟨rfl, Fr.refl _ _⟩
theorem slot_size4 : (Tryd.prog.info? 147).map (·.size) = some 17 := by kernel_rfl
theorem own_one {w : World} {base : Nat} {e : TypeId} {size n : Nat} {v : Value} {xs : List Value} (h : w.ownsRow base e size v n xs) : v.oneCell' = true := by
  rcases h.2 with ⟨rfl, _⟩ | ⟨g, cap, cur, rfl, _⟩ <;> rfl
theorem sl_one {w : World} {a G : Nat} {last : Int} {ss : List Sl} (h : Ar w a G last ss) {cs : Array Value} (hc : SlCells cs ss) : ∀ v ∈ cs.toList, v.oneCell' = true := by
  intro v hv
  obtain ⟨j, hj⟩ := List.mem_iff_getElem?.1 hv
  rw [Array.getElem?_toList] at hj
  have hjl : j < cs.size := (Array.getElem?_eq_some_iff.1 hj).1
  rw [hc.1] at hjl
  obtain ⟨s, hs⟩ : ∃ s, ss[j / 17]? = some s := ⟨_, List.getElem?_eq_getElem (by omega)⟩
  have hr : j % 17 < (slL s).length := by show j % 17 < 17; omega
  have h1 := hc.2 (j / 17) s hs (j % 17) _ (List.getElem?_eq_getElem hr)
  rw [show j / 17 * 17 + j % 17 = j by omega, hj] at h1
  obtain rfl := Option.some.inj h1
  have ho := h.own _ s hs
  have hm : (slL s)[j % 17] ∈ slL s := List.getElem_mem hr
  generalize (slL s)[j % 17] = u at hm ⊢
  simp only [List.mem_cons, List.not_mem_nil, or_false] at hm
  rcases hm with rfl | rfl | rfl | rfl | rfl | rfl | rfl | rfl | rfl | rfl | rfl | rfl | rfl | rfl | rfl | rfl | rfl <;> first | rfl | exact own_one ho.r | exact own_one ho.e
def CopyPost4 (last : Int) (ss : List Sl) (w : World) (e : Ending) (w' : World) : Prop := ∃ a2 G2, e = .returned (.pointer (some ⟨a2, 0, none⟩)) ∧ Ar w' a2 G2 last ss ∧ Fr none_ w w' ∧ w.heap.size ≤ a2 ∧ w.heap.size ≤ G2
set_option maxHeartbeats 4000000 in
theorem arCopy_ok (a G : Nat) (last : Int) (ss : List Sl) (w : World) (hn : 1 ≤ ss.length) (h : Ar w a G last ss) : Calls Tryd.prog 19 #[.pointer (some ⟨a, 0, none⟩)] w (CopyPost4 last ss w) := by
  obtain ⟨n, hnn⟩ : ∃ n, n = ss.length := ⟨_, rfl⟩
  have hl := h.len
  rw [← hnn] at hl hn
  obtain ⟨i0, hi0, hz0, hs0, hb0⟩ := info_parts slot_info
  have hmk := fun W : World => run_make (P := Tryd.prog) W 136 147 i0 _ Tryd.underlying136 hi0 hz0 .i64 .i64 (n : Int) (n : Int) (by omega) (by omega) (by rw [hb0]; omega) (by omega)
  rw [hs0] at hmk
  simp only [Int.toNat_natCast] at hmk
  clear hi0 hz0 hs0 hb0
  have c0 : w.cell? ⟨a, 0, none⟩ = some (.slice (some ⟨G, 0, none⟩) n n) := by rw [hnn]; exact h.hA.cell' rfl
  have c1 : w.cell? ⟨a, 1, none⟩ = some (.int .i64 last) := h.hA.cell' rfl
  have H := hid_ h
  have HN := hid_ hnn
  clear h hnn
  go_enter Tryd.func19, Tryd.ntmps19
  go_upto_region 3 with fail
  have hS : (fun w' : World => Fr none_ w w') w.drew := (Fr.refl none_ w).drew
  refine wp_region_u 13 (fun w' : World => Fr none_ w w') (by kernel_rfl) ?_
  refine u_take 0 (some 6) (.pointer (some ⟨a, 0, none⟩)) rfl rfl (by kernel_rfl) (by kernel_rfl) (by kernel_rfl) (by kernel_rfl) (fun _ _ _ h => h) (y_val (by kernel_rfl) (fun w' hS => by kernel_rfl)) hS ?_
  refine u_take 1 (some 7) (.pointer (some ⟨a, 0, none⟩)) rfl rfl (by kernel_rfl) (by kernel_rfl) (by kernel_rfl) (by kernel_rfl) (fun _ _ _ h => h) (y_val (by kernel_rfl) (fun w' hS => by kernel_rfl)) hS ?_
  refine u_take 2 (some 8) (.pointer (some ⟨a, 0, none⟩)) rfl rfl (by kernel_rfl) (by kernel_rfl) (by kernel_rfl) (by kernel_rfl) (fun _ _ _ h => h) (y_val (by kernel_rfl) (fun w' hS => by kernel_rfl)) hS ?_
  refine u_take 3 (some 9) (.slice (some ⟨G, 0, none⟩) n n) rfl rfl (by kernel_rfl) (by kernel_rfl) (by kernel_rfl) (by kernel_rfl) (fun _ _ _ h => h) (y_cell 136 (.tmp 8) ⟨a, 0, none⟩ _ (by kernel_rfl) rfl (by kernel_rfl) (fun w' hS => cellFr c0 hS) Tryd.underlying136 rfl) hS ?_
  refine u_take 4 (some 10) (.int .i64 (n : Nat)) rfl rfl (by kernel_rfl) (by kernel_rfl) (by kernel_rfl) (by kernel_rfl) (fun _ _ _ h => h) (y_val (by kernel_rfl) (fun w' hS => by kernel_rfl)) hS ?_
  refine u_take 6 (some 12) (.pointer (some ⟨a, 0, none⟩)) rfl rfl (by kernel_rfl) (by kernel_rfl) (by kernel_rfl) (by kernel_rfl) (fun _ _ _ h => h) (y_val (by kernel_rfl) (fun w' hS => by kernel_rfl)) hS ?_
  refine u_take 7 (some 13) (.pointer (some ⟨a, 0, none⟩)) rfl rfl (by kernel_rfl) (by kernel_rfl) (by kernel_rfl) (by kernel_rfl) (fun _ _ _ h => h) (y_val (by kernel_rfl) (fun w' hS => by kernel_rfl)) hS ?_
  refine u_take 8 (some 14) (.pointer (some ⟨a, 1, none⟩)) rfl rfl (by kernel_rfl) (by kernel_rfl) (by kernel_rfl) (by kernel_rfl) (fun _ _ _ h => h) (y_val (by kernel_rfl) (fun w' hS => by kernel_rfl)) hS ?_
  refine u_take 9 (some 15) (.int .i64 last) rfl rfl (by kernel_rfl) (by kernel_rfl) (by kernel_rfl) (by kernel_rfl) (fun _ _ _ h => h) (y_cell 3 (.tmp 14) ⟨a, 1, none⟩ _ (by kernel_rfl) rfl (by kernel_rfl) (fun w' hS => cellFr c1 hS) Tryd.underlying3 rfl) hS ?_
  obtain ⟨w1, hw1⟩ : ∃ z, z = w.drew.alloc (.cells (madeCells (slL Sl.zero).toArray (n * 17)) 147) := ⟨_, rfl⟩
  have f1 : Fr none_ w w1 := by rw [hw1]; exact hS.alloc _
  refine u_step 5 (some 11) (.slice (some ⟨w.heap.size, 0, none⟩) n n) w1 rfl rfl (by kernel_rfl) (by kernel_rfl) (by rw [hw1]; go_simp) ⟨f1, ?_⟩
  refine u_take 10 (some 16) (.agg #[.slice (some ⟨w.heap.size, 0, none⟩) n n, .int .i64 last]) rfl rfl (by kernel_rfl) (by kernel_rfl) (by kernel_rfl) (by kernel_rfl) (fun _ _ _ h => h) (y_val (by kernel_rfl) (fun w' hS => by kernel_rfl)) f1 ?_
  have hs1 : w1.heap.size = w.heap.size + 1 := by rw [hw1]; simp
  obtain ⟨w2, hw2⟩ : ∃ z, z = w1.alloc (.cells #[.slice (some ⟨w.heap.size, 0, none⟩) n n, .int .i64 last] 138) := ⟨_, rfl⟩
  have f2 : Fr none_ w w2 := by rw [hw2]; exact f1.alloc _
  refine u_step 11 (some 17) (.pointer (some ⟨w1.heap.size, 0, none⟩)) w2 rfl rfl (by kernel_rfl) (by kernel_rfl) (by rw [hw2]; kernel_rfl) ⟨f2, ?_⟩
  refine u_take 12 (some 3) (.pointer (some ⟨w1.heap.size, 0, none⟩)) rfl rfl (by kernel_rfl) (by kernel_rfl) (by kernel_rfl) (by kernel_rfl) (fun _ _ _ h => h) (y_val (by kernel_rfl) (fun w' hS => by kernel_rfl)) f2 ?_
  refine u_done (by kernel_rfl) ?_
  have BS : Hid (Blk w2 w.heap.size 147 (madeCells (slL Sl.zero).toArray (n * 17))) := hid_ (by rw [hw2, hw1]; exact (Blk.new w.drew _ _).alloc _)
  have BA : Hid (Blk w2 w1.heap.size 138 #[.slice (some ⟨w.heap.size, 0, none⟩) n n, .int .i64 last]) := hid_ (by rw [hw2]; exact Blk.new w1 _ _)
  clear hw1 hw2 hS
  go_frame
  go_upto_region 4 with fail
  clear c0 c1 f1
  obtain ⟨cs, hG, hcs⟩ := H.out.hG
  have hsz : cs.toList.length = n * 17 := by rw [Array.length_toList, hcs.1, HN.out]
  have hG2 : Blk w2 G 147 cs := hG.fr f2 id
  have b0 : w2.cell? ⟨w1.heap.size, 0, none⟩ = some (.slice (some ⟨w.heap.size, 0, none⟩) n n) := BA.out.cell' rfl
  have c0 : w2.cell? ⟨a, 0, none⟩ = some (.slice (some ⟨G, 0, none⟩) n n) := by rw [HN.out]; exact (H.out.hA.fr f2 id).cell' rfl
  have hmin : Nat.min n n = n := Nat.min_self n
  have hms : (madeCells (slL Sl.zero).toArray (n * 17)).size = cs.toList.length := by rw [size_madeCells, hsz]
  have hcp : (Builtin.copy_ #[136, 136] 3 #[.slice (some ⟨w.heap.size, 0, none⟩) n n, .slice (some ⟨G, 0, none⟩) n n]).run Tryd.prog w2.drew = .ok (goInt (Nat.min n n)) (w2.drew.setCells w.heap.size 0 cs.toList) :=
    run_copy_wide w2.drew 136 136 3 147 17 w.heap.size 0 n n ⟨G, 0, none⟩ n n cs.toList Tryd.underlying136 slot_size4 (by rw [hsz, hmin, Nat.mul_comm])
      (fun j v hv => by rw [add_lit, Nat.zero_add]; exact hG2.drew.cell' (by simpa using hv))
      (fun j hj => by rw [Nat.zero_add]; rw [BS.out.drew.cell]; rw [← hms] at hj; simp [hj])
      (fun j _ => BS.out.drew.frozen _) (sl_one H.out hcs)
  obtain ⟨w3, hw3⟩ : ∃ z, z = w2.drew.setCells w.heap.size 0 cs.toList := ⟨_, rfl⟩
  have ov := Blk.over4 BS.out.drew cs.toList hms
  rw [← hw3] at hcp ov
  have hS : (fun w' : World => Blk w' w1.heap.size 138 #[.slice (some ⟨w.heap.size, 0, none⟩) n n, .int .i64 last] ∧ w'.cell? ⟨a, 0, none⟩ = some (.slice (some ⟨G, 0, none⟩) n n)) w2.drew := ⟨BA.out.drew, cellFr c0 (Fr.refl none_ w2).drew⟩
  refine wp_region_u 9 (fun w' : World => Blk w' w1.heap.size 138 #[.slice (some ⟨w.heap.size, 0, none⟩) n n, .int .i64 last] ∧ w'.cell? ⟨a, 0, none⟩ = some (.slice (some ⟨G, 0, none⟩) n n)) (by kernel_rfl) ?_
  refine u_take 0 (some 18) (.pointer (some ⟨w1.heap.size, 0, none⟩)) rfl rfl (by kernel_rfl) (by kernel_rfl) (by kernel_rfl) (by kernel_rfl) (fun _ _ _ h => h) (y_val (by kernel_rfl) (fun w' hS => by kernel_rfl)) hS ?_
  refine u_take 1 (some 19) (.pointer (some ⟨w1.heap.size, 0, none⟩)) rfl rfl (by kernel_rfl) (by kernel_rfl) (by kernel_rfl) (by kernel_rfl) (fun _ _ _ h => h) (y_val (by kernel_rfl) (fun w' hS => by kernel_rfl)) hS ?_
  refine u_take 2 (some 20) (.pointer (some ⟨w1.heap.size, 0, none⟩)) rfl rfl (by kernel_rfl) (by kernel_rfl) (by kernel_rfl) (by kernel_rfl) (fun _ _ _ h => h) (y_val (by kernel_rfl) (fun w' hS => by kernel_rfl)) hS ?_
  refine u_take 3 (some 21) (.slice (some ⟨w.heap.size, 0, none⟩) n n) rfl rfl (by kernel_rfl) (by kernel_rfl) (by kernel_rfl) (by kernel_rfl) (fun _ _ _ h => h) (y_cell 136 (.tmp 20) ⟨w1.heap.size, 0, none⟩ _ (by kernel_rfl) rfl (by kernel_rfl) (fun w' hS => hS.1.cell' rfl) Tryd.underlying136 rfl) hS ?_
  refine u_take 4 (some 22) (.pointer (some ⟨a, 0, none⟩)) rfl rfl (by kernel_rfl) (by kernel_rfl) (by kernel_rfl) (by kernel_rfl) (fun _ _ _ h => h) (y_val (by kernel_rfl) (fun w' hS => by kernel_rfl)) hS ?_
  refine u_take 5 (some 23) (.pointer (some ⟨a, 0, none⟩)) rfl rfl (by kernel_rfl) (by kernel_rfl) (by kernel_rfl) (by kernel_rfl) (fun _ _ _ h => h) (y_val (by kernel_rfl) (fun w' hS => by kernel_rfl)) hS ?_
  refine u_take 6 (some 24) (.pointer (some ⟨a, 0, none⟩)) rfl rfl (by kernel_rfl) (by kernel_rfl) (by kernel_rfl) (by kernel_rfl) (fun _ _ _ h => h) (y_val (by kernel_rfl) (fun w' hS => by kernel_rfl)) hS ?_
  refine u_take 7 (some 25) (.slice (some ⟨G, 0, none⟩) n n) rfl rfl (by kernel_rfl) (by kernel_rfl) (by kernel_rfl) (by kernel_rfl) (fun _ _ _ h => h) (y_cell 136 (.tmp 24) ⟨a, 0, none⟩ _ (by kernel_rfl) rfl (by kernel_rfl) (fun w' hS => hS.2) Tryd.underlying136 rfl) hS ?_
  have hal := H.out.ltA
  have hne : a ≠ w.heap.size := by omega
  have BA3 : Hid (Blk w3 w1.heap.size 138 #[.slice (some ⟨w.heap.size, 0, none⟩) n n, .int .i64 last]) := hid_ (BA.out.drew.fr ov.2 (only_ne (by omega)))
  have F3 : Hid (Fr none_ w w3) := hid_ (f2.drew.then_only ov.2 (.inr (Nat.le_refl _)))
  have B3 := hid_ ov.1
  refine u_step 8 (some 26) (goInt (Nat.min n n)) w3 rfl rfl (by kernel_rfl) (by kernel_rfl) (by go_simp) ⟨⟨BA3.out, by rw [HN.out]; exact (H.out.hA.fr F3.out id).cell' rfl⟩, ?_⟩
  refine u_done (by kernel_rfl) ?_
  clear hcp hw3 ov hS c0 b0
  go_frame
  go_wp2_with fail
  go_ret
  refine ⟨w1.heap.size, w.heap.size, rfl, ⟨?_, ⟨cs, B3.out, hcs⟩, fun i s hs => (H.out.own i s hs).keep F3.out, H.out.l40, H.out.len, H.out.gen, H.out.sz⟩, F3.out, by omega, Nat.le_refl _⟩
  rw [← HN.out]
  exact BA3.out
end Go.Proofs.YtfoljojacakkeaaDoor

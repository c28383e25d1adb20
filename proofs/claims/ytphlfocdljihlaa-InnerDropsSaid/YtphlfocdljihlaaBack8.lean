/- InnerBack's walk. Written by gen_back8.py. -/
import Derived.Test.YtphlfocdljihlaaLaw8
import Derived.Test.YtphlfocdljihlaaIn8
import Derived.Test.YtphlfocdljihlaaAwake8
import Derived.Test.YtphlfocdljihlaaSame8
import Derived.Test.YtphlfocdljihlaaBase8
import Derived.Test.YtphlfocdljihlaaQx
import Derived.Deep.DeepCutAuto
namespace Go.Proofs.Ytphlfocdljihlaa
open Go.RowKit Go.BigFrame Go.ChangeShapes Go.WideShapes
set_option maxRecDepth 100000
set_option linter.unusedVariables false

theorem own_chreads {w : World} {L Cs : List Ch} {base c n : Nat} {A : Option Addr} (hn : L.length = n) (hm : Cs.map (·.R) = L.map (·.R)) (ho : w.ownsRow base 39 15 (.slice A n c) n (recFlat Cs)) (hc : ∀ C ∈ Cs, ChOwn w C) : ChReads w A n Cs :=
  chReads_own ho (by have := congrArg List.length hm; simpa [hn] using this) (fun C h => (hc C h).ok)
theorem map_ents {L Cs : List Ch} (hm : Cs.map (·.R) = L.map (·.R)) {b : Nat} (h : ∀ C ∈ L, C.R.ents.length ≤ b) : ∀ C ∈ Cs, C.R.ents.length ≤ b := fun C hC => by
  have : C.R ∈ Cs.map (·.R) := List.mem_map.2 ⟨C, hC, rfl⟩
  rw [hm] at this
  obtain ⟨D, hD, e⟩ := List.mem_map.1 this
  rw [← e]
  exact h D hD
theorem few_ents {L : List Ch} (h : FewOk8 L) : ∀ C ∈ L, C.R.ents.length ≤ 100 := fun C hC => by
  obtain ⟨k, hk⟩ := List.mem_iff_getElem?.1 hC
  exact h.2 k C hk
theorem in_rows {w : World} {A : Option Addr} {n : Nat} {L : List Ch} (h : InReads w A n L) : ∀ C ∈ L, C.R.rows.length ≤ 4398046511104 := fun C hC => by
  obtain ⟨k, hk⟩ := List.mem_iff_getElem?.1 hC
  obtain ⟨_, _, _, _, _, h⟩ := h.at_ hk
  exact h.rows
/-- A view's base, as a record of the call's own, in a block of its own. -/
theorem base_chok {w : World} {V : Vw} {A : Option Addr} {c : Nat} {base : Nat} (ho : w.ownsRow base 47 2 (.slice A V.ents.length c) V.ents.length (etFlat V.ents)) (hv : V.Ok) : ChOk w ⟨baseR V, none, 0, A, c⟩ := by
  obtain ⟨A', c', e, h1, h2, _⟩ := own_parts ho
  have e1 : c = c' := by injection e
  exact ⟨⟨Reads.nil_, Reads.of_own ho⟩, hv.low, hv.high, SzOk.nil, SzOk.nil, hv.ents, by rw [e1]; exact h1, by rw [e1]; exact h2⟩
theorem kinds_map {L Cs : List Ch} (hm : Cs.map (·.R) = L.map (·.R)) : True := trivial
set_option maxHeartbeats 8000000 in
theorem back8_walk (A : Option Addr) (n cap : Nat) (L : List Ch) (w : World) (h : InReads w A n L) (hm : n ≤ maxLen) :
    Calls Try.prog 3 #[.slice A n cap] w fun e w' => e = .returned (.bool true) ∧ Fr none_ w w' := by
  obtain rfl : L.length = n := h.1
  have H := hid_ h
  have F := hid_ (Fr.refl none_ w)
  clear h
  go_enter Try.func3, Try.ntmps3
  go_wp2_with fail
  refine (few8_ok A L.length cap L _ H.out hm).mono ?_
  rintro e w1 ⟨b, rfl, hb, hf1⟩
  have HB := hid_ hb
  replace H := hid_ (H.out.keep hf1)
  replace F := hid_ (F.out.then_none hf1)
  clear hb hf1
  cases b with
  | false =>
    go_wp2_with fail
    refine (awake8 _).mono ?_
    rintro e w9 ⟨rfl, hf9⟩
    have F9 := hid_ hf9
    clear hf9
    go_wp2_with fail
    go_ret
    exact ⟨rfl, (F.out).then_none F9.out⟩
  | true =>
    have hfo := HB.out (by first | rfl | trivial)
    have h40 := hfo.1
    have HE := hid_ (few_ents hfo)
    clear hfo
    go_wp2_with fail
    refine (own8_ok A L.length cap L _ (H.out.few HE.out) (by omega) (in_rows H.out)).mono ?_
    rintro e w2 ⟨A2, c2, Cs, rfl, hCs, hown, hco, hf2⟩
    have CR := hid_ (own_chreads (by first | rfl | trivial) hCs hown hco)
    have HCE := hid_ (map_ents hCs HE.out)
    have HM := hid_ hCs
    replace H := hid_ (H.out.keep hf2)
    replace F := hid_ (F.out.then_none hf2)
    clear hCs hown hco hf2
    go_wp2_with fail
    refine (fold_ok A2 L.length c2 Cs _ CR.out (by omega) (fun C hC => by have := HCE.out C hC; omega)).mono ?_
    rintro e w3 (⟨V, A3, c3, hkk, hfo, rfl, hvin, hheld, hf3⟩ | ⟨k, hk, hno, rfl, hf3⟩)
    rotate_left
    · skip
      replace H := hid_ (H.out.keep hf3)
      replace F := hid_ (F.out.then_none hf3)
      replace CR := hid_ (CR.out.keep hf3)
      clear hf3 hno
      go_wp2_with fail
      refine (awake8 _).mono ?_
      rintro e w9 ⟨rfl, hf9⟩
      have F9 := hid_ hf9
      clear hf9
      go_wp2_with fail
      go_ret
      exact ⟨rfl, (F.out.alloc _).then_none F9.out⟩
    have hlen : V.ents.length ≤ 140 := by
      have h1 := fold_len (b := 100) hfo (fun R hR => by
        obtain ⟨C, hC, rfl⟩ := List.mem_map.1 hR
        exact HCE.out C hC)
      have h2 := congrArg List.length HM.out
      simp only [List.length_map] at h1 h2
      omega
    have G := hid_ (fold_good hfo)
    have VI := hid_ hvin
    replace H := hid_ (H.out.keep hf3)
    replace F := hid_ (F.out.then_none hf3)
    replace CR := hid_ (CR.out.keep hf3)
    have hsz := F.out.size
    have HSZ := hid_ hsz
    clear hsz
    clear hfo hkk hheld hvin hf3
    go_upto_region 4 with fail
    obtain ⟨w4, hw4⟩ : ∃ z, z = w3.alloc (.cells (vwA V (.slice A3 V.ents.length c3)) 29) := ⟨_, rfl⟩
    have fw4 : Fr none_ w3 w4 := by rw [hw4]; exact (Fr.refl none_ w3).alloc _
    have BV : Hid (Blk w4 w3.heap.size 29 (vwA V (.slice A3 V.ents.length c3))) := hid_ (by rw [hw4]; exact Blk.new w3 _ _)
    replace F := hid_ (F.out.then_none fw4)
    replace VI := hid_ (VI.out.keep fw4)
    change Code.wp _ _ _ _ (w3.alloc (.cells (vwA V (.slice A3 V.ents.length c3)) 29))
    rw [← hw4]
    clear hw4 fw4
    have v0 : w4.cell? ⟨w3.heap.size, 0, none⟩ = some (.string V.low) := BV.out.cell' rfl
    have v1 : w4.cell? ⟨w3.heap.size, 1, none⟩ = some (.string V.high) := BV.out.cell' rfl
    have v2 : w4.cell? ⟨w3.heap.size, 2, none⟩ = some (.bool V.unb) := BV.out.cell' rfl
    have v3 : w4.cell? ⟨w3.heap.size, 3, none⟩ = some (.int .i64 V.right) := BV.out.cell' rfl
    have v4 : w4.cell? ⟨w3.heap.size, 4, none⟩ = some (.slice A3 V.ents.length c3) := BV.out.cell' rfl
    have v5 : w4.cell? ⟨w3.heap.size, 5, none⟩ = some (.bool V.held) := BV.out.cell' rfl
    have v6 : w4.cell? ⟨w3.heap.size, 6, none⟩ = some (.int .i64 V.hp) := BV.out.cell' rfl
    have v7 : w4.cell? ⟨w3.heap.size, 7, none⟩ = some (.int .i64 V.hl) := BV.out.cell' rfl
    have v8 : w4.cell? ⟨w3.heap.size, 8, none⟩ = some (.string V.hk) := BV.out.cell' rfl
    go_wp2_with fail
    refine (base_ok V A3 c3 _ VI.out).mono ?_
    rintro e w5 ⟨A5, c5, rfl, ho5, hf5⟩
    have O5 := hid_ ho5
    replace F := hid_ (F.out.then_none hf5)
    replace VI := hid_ (VI.out.keep hf5)
    replace BV := hid_ (BV.out.fr hf5 id)
    clear ho5 hf5
    clear v0 v1 v2 v3 v4 v5 v6 v7 v8
    have hV5 := VI.out.ok
    have HOK := hid_ hV5
    clear hV5
    go_wp2_with fail
    obtain ⟨w6, hw6⟩ : ∃ z, z = w5.alloc (.cells (recL ⟨baseR V, none, 0, A5, c5⟩).toArray 39) := ⟨_, rfl⟩
    have fw6 : Fr none_ w5 w6 := by rw [hw6]; exact (Fr.refl none_ w5).alloc _
    have BR : Hid (Blk w6 w5.heap.size 39 ((recL ⟨baseR V, none, 0, A5, c5⟩).toArray)) := hid_ (by rw [hw6]; exact Blk.new w5 _ _)
    replace F := hid_ (F.out.then_none fw6)
    replace VI := hid_ (VI.out.keep fw6)
    replace BV := hid_ (BV.out.fr fw6 id)
    replace O5 := hid_ (own_none O5.out fw6)
    change Calls _ _ _ (w5.alloc (.cells (recL ⟨baseR V, none, 0, A5, c5⟩).toArray 39)) _
    rw [← hw6]
    clear hw6 fw6
    have CR6 := hid_ (chReads_blk (w := w6) (g := w5.heap.size) (Cs := [⟨baseR V, none, 0, A5, c5⟩]) BR.out rfl (fun C hC => by
      obtain rfl : C = ⟨baseR V, none, 0, A5, c5⟩ := by simpa using hC
      exact base_chok O5.out HOK.out))
    have hl5 := HOK.out.ents.1
    have hl6 : ∀ C ∈ [(⟨baseR V, none, 0, A5, c5⟩ : Ch)], C.R.ents.length ≤ 500 := fun C hC => by
      obtain rfl : C = ⟨baseR V, none, 0, A5, c5⟩ := by simpa using hC
      show V.ents.length ≤ 500
      omega
    refine (fold_ok (some ⟨w5.heap.size, 0, none⟩) 1 1 [⟨baseR V, none, 0, A5, c5⟩] _ CR6.out (by omega) hl6).mono ?_
    rintro e w7 (⟨W, A7, c7, -, hfo, rfl, hvin, -, hf7⟩ | ⟨k, -, hno, rfl, hf7⟩)
    rotate_left
    · have : foldU [baseR V] = none := hno (fun R hR => by
        obtain rfl : R = baseR V := by simpa using hR
        exact ⟨by show (7 : Int) ≤ 7; decide, by show (7 : Int) ≤ 11; decide⟩)
      rw [base_fold G.out.s] at this
      cases this
    obtain rfl : dropH V = W := by have hfo : foldU [baseR V] = some W := hfo; rw [base_fold G.out.s] at hfo; exact Option.some.inj hfo
    have WI := hid_ hvin
    replace F := hid_ (F.out.then_none hf7)
    replace VI := hid_ (VI.out.keep hf7)
    replace BV := hid_ (BV.out.fr hf7 id)
    replace O5 := hid_ (own_none O5.out hf7)
    replace BR := hid_ (BR.out.fr hf7 id)
    clear hfo hvin hf7 CR6 hl6
    go_upto_region 7 with fail
    have hlt7 := BV.out.lt
    obtain ⟨w8, hw8⟩ : ∃ z, z = w7.alloc (.cells (vwA (dropH V) (.slice A7 (dropH V).ents.length c7)) 29) := ⟨_, rfl⟩
    have fw8 : Fr none_ w7 w8 := by rw [hw8]; exact (Fr.refl none_ w7).alloc _
    have BW : Hid (Blk w8 w7.heap.size 29 (vwA (dropH V) (.slice A7 (dropH V).ents.length c7))) := hid_ (by rw [hw8]; exact Blk.new w7 _ _)
    replace F := hid_ (F.out.then_none fw8)
    replace VI := hid_ (VI.out.keep fw8)
    replace BV := hid_ (BV.out.fr fw8 id)
    replace WI := hid_ (WI.out.keep fw8)
    change Code.wp _ _ _ _ (w7.alloc (.cells (vwA (dropH V) (.slice A7 (dropH V).ents.length c7)) 29))
    rw [← hw8]
    clear hw8 fw8
    have v0 : w8.cell? ⟨w3.heap.size, 0, none⟩ = some (.string V.low) := BV.out.cell' rfl
    have v1 : w8.cell? ⟨w3.heap.size, 1, none⟩ = some (.string V.high) := BV.out.cell' rfl
    have v2 : w8.cell? ⟨w3.heap.size, 2, none⟩ = some (.bool V.unb) := BV.out.cell' rfl
    have v3 : w8.cell? ⟨w3.heap.size, 3, none⟩ = some (.int .i64 V.right) := BV.out.cell' rfl
    have v4 : w8.cell? ⟨w3.heap.size, 4, none⟩ = some (.slice A3 V.ents.length c3) := BV.out.cell' rfl
    have v5 : w8.cell? ⟨w3.heap.size, 5, none⟩ = some (.bool V.held) := BV.out.cell' rfl
    have v6 : w8.cell? ⟨w3.heap.size, 6, none⟩ = some (.int .i64 V.hp) := BV.out.cell' rfl
    have v7 : w8.cell? ⟨w3.heap.size, 7, none⟩ = some (.int .i64 V.hl) := BV.out.cell' rfl
    have v8 : w8.cell? ⟨w3.heap.size, 8, none⟩ = some (.string V.hk) := BV.out.cell' rfl
    have fz5 := BV.out.frozen 5
    have fz6 := BV.out.frozen 6
    have fz7 := BV.out.frozen 7
    have fz8 := BV.out.frozen 8
    go_upto_region 8 with fail
    obtain ⟨wb, hwb⟩ : ∃ z, z = (((w8.setCell ⟨w3.heap.size, 5, none⟩ (.bool false)).setCell ⟨w3.heap.size, 6, none⟩ (.int .i64 0)).setCell ⟨w3.heap.size, 7, none⟩ (.int .i64 0)).setCell ⟨w3.heap.size, 8, none⟩ (.string nilS) := ⟨_, rfl⟩
    have fb : Fr (only w3.heap.size) w8 wb := by rw [hwb]; exact ((((Fr.refl (only w3.heap.size) w8).setCell (p := ⟨w3.heap.size, 5, none⟩) (.inl (Eq.refl _)) _).setCell (p := ⟨w3.heap.size, 6, none⟩) (.inl (Eq.refl _)) _).setCell (p := ⟨w3.heap.size, 7, none⟩) (.inl (Eq.refl _)) _).setCell (p := ⟨w3.heap.size, 8, none⟩) (.inl (Eq.refl _)) _
    have hne : w7.heap.size ≠ w3.heap.size := by omega
    have BV2 : Hid (Blk wb w3.heap.size 29 (vwA (dropH V) (.slice A3 V.ents.length c3))) := hid_ (by rw [hwb]; exact (((BV.out.set_ 5 _).set_ 6 _).set_ 7 _).set_ 8 _)
    have BW2 := hid_ (BW.out.fr fb (only_ne hne))
    have VI2 := hid_ (VI.out.far BV.out fb)
    have WI2 := hid_ (WI.out.far BV.out fb)
    have FB := hid_ (F.out.then_only fb (.inr HSZ.out))
    change Code.wp _ _ _ _ ((((w8.setCell ⟨w3.heap.size, 5, none⟩ (.bool false)).setCell ⟨w3.heap.size, 6, none⟩ (.int .i64 0)).setCell ⟨w3.heap.size, 7, none⟩ (.int .i64 0)).setCell ⟨w3.heap.size, 8, none⟩ (.string nilS))
    rw [← hwb]
    clear hwb fb fz5 fz6 fz7 fz8
    clear v0 v1 v2 v3 v4 v5 v6 v7 v8
    have v0 : ∀ x : Wx wb, x.to.cell? ⟨w3.heap.size, 0, none⟩ = some (.string (dropH V).low) := fun x => x.cell (BV2.out.cell' rfl)
    have v1 : ∀ x : Wx wb, x.to.cell? ⟨w3.heap.size, 1, none⟩ = some (.string (dropH V).high) := fun x => x.cell (BV2.out.cell' rfl)
    have v2 : ∀ x : Wx wb, x.to.cell? ⟨w3.heap.size, 2, none⟩ = some (.bool (dropH V).unb) := fun x => x.cell (BV2.out.cell' rfl)
    have v3 : ∀ x : Wx wb, x.to.cell? ⟨w3.heap.size, 3, none⟩ = some (.int .i64 (dropH V).right) := fun x => x.cell (BV2.out.cell' rfl)
    have v4 : ∀ x : Wx wb, x.to.cell? ⟨w3.heap.size, 4, none⟩ = some (.slice A3 V.ents.length c3) := fun x => x.cell (BV2.out.cell' rfl)
    have v5 : ∀ x : Wx wb, x.to.cell? ⟨w3.heap.size, 5, none⟩ = some (.bool (dropH V).held) := fun x => x.cell (BV2.out.cell' rfl)
    have v6 : ∀ x : Wx wb, x.to.cell? ⟨w3.heap.size, 6, none⟩ = some (.int .i64 (dropH V).hp) := fun x => x.cell (BV2.out.cell' rfl)
    have v7 : ∀ x : Wx wb, x.to.cell? ⟨w3.heap.size, 7, none⟩ = some (.int .i64 (dropH V).hl) := fun x => x.cell (BV2.out.cell' rfl)
    have v8 : ∀ x : Wx wb, x.to.cell? ⟨w3.heap.size, 8, none⟩ = some (.string (dropH V).hk) := fun x => x.cell (BV2.out.cell' rfl)
    have y0 : ∀ x : Wx wb, x.to.cell? ⟨w7.heap.size, 0, none⟩ = some (.string (dropH V).low) := fun x => x.cell (BW2.out.cell' rfl)
    have y1 : ∀ x : Wx wb, x.to.cell? ⟨w7.heap.size, 1, none⟩ = some (.string (dropH V).high) := fun x => x.cell (BW2.out.cell' rfl)
    have y2 : ∀ x : Wx wb, x.to.cell? ⟨w7.heap.size, 2, none⟩ = some (.bool (dropH V).unb) := fun x => x.cell (BW2.out.cell' rfl)
    have y3 : ∀ x : Wx wb, x.to.cell? ⟨w7.heap.size, 3, none⟩ = some (.int .i64 (dropH V).right) := fun x => x.cell (BW2.out.cell' rfl)
    have y4 : ∀ x : Wx wb, x.to.cell? ⟨w7.heap.size, 4, none⟩ = some (.slice A7 V.ents.length c7) := fun x => x.cell (BW2.out.cell' rfl)
    have y5 : ∀ x : Wx wb, x.to.cell? ⟨w7.heap.size, 5, none⟩ = some (.bool (dropH V).held) := fun x => x.cell (BW2.out.cell' rfl)
    have y6 : ∀ x : Wx wb, x.to.cell? ⟨w7.heap.size, 6, none⟩ = some (.int .i64 (dropH V).hp) := fun x => x.cell (BW2.out.cell' rfl)
    have y7 : ∀ x : Wx wb, x.to.cell? ⟨w7.heap.size, 7, none⟩ = some (.int .i64 (dropH V).hl) := fun x => x.cell (BW2.out.cell' rfl)
    have y8 : ∀ x : Wx wb, x.to.cell? ⟨w7.heap.size, 8, none⟩ = some (.string (dropH V).hk) := fun x => x.cell (BW2.out.cell' rfl)
    have X1 : Hid (∀ (x : Wx wb) (A : Option Addr) (c : Nat), Calls Try.prog 14 #[vwV (dropH V) (.slice A V.ents.length c)] x.to fun e w' => e = .returned (vwV (dropH V) (.slice A V.ents.length c)) ∧ Fr none_ x.to w') := hid_ (fun x A c => view_ok (dropH V) A c _)
    have X2 : Hid (∀ x : Wx wb, Calls Try.prog 13 #[vwV (dropH V) (.slice A3 V.ents.length c3), vwV (dropH V) (.slice A7 V.ents.length c7)] x.to fun e w' => e = .returned (.bool true) ∧ Fr none_ x.to w') := hid_ (fun x => same8_ok (dropH V) A3 A7 c3 c7 _ (VI2.out.rd.none_fr x.fr) (WI2.out.rd.none_fr x.fr) (by show V.ents.length ≤ 2000; omega))
    have XAW : Hid (∀ x : Wx wb, Calls Try.prog 9 #[] x.to fun e w' => e = .returned (.bool true) ∧ Fr none_ x.to w') := hid_ (fun x => awake8 _)
    go_wp2_with fail
    refine wp_region_quiet_x (by kernel_rfl) (by kernel_rfl) ?_
    repeat (first | go_big_quiet_step (((first | (go_at_call 14; exact Calls.quiet_x (X1.out _ _ _)) | (go_at_call 13; exact Calls.quiet_x (X2.out _)) | (go_at_call 9; exact Calls.quiet_x (XAW.out _))))) | quiet_step (((first | (go_at_call 14; exact Calls.quiet_x (X1.out _ _ _)) | (go_at_call 13; exact Calls.quiet_x (X2.out _)) | (go_at_call 9; exact Calls.quiet_x (XAW.out _))))))
    refine wpQuiet_nil ?_
    intro _ hw'
    obtain ⟨xq, hw''⟩ := hw'
    subst hw''
    have FX := hid_ xq.fr
    go_wp2_with fail
    go_ret
    exact ⟨rfl, FB.out.then_none FX.out⟩
theorem back8_walk_i {H : Type} {enc : TypeId × Value → H} (A : Option Addr) (n cap : Nat) (hc : n ≤ cap) (hm : cap ≤ maxLen) (w : World) (h : RecordAt enc w A n) :
    Calls Try.prog 3 #[.slice A n cap] w fun e w' => e = .returned (.bool true) ∧ Fr none_ w w' := by
  obtain ⟨L, hL⟩ := ins_of h
  exact back8_walk A n cap L w hL (by omega)
end Go.Proofs.Ytphlfocdljihlaa

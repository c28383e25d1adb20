/- Trail at what the laws ask, and FaultOthers' walk. -/
import Derived.Test.YtcfddlfeldidjaaDoorWay1
import Derived.Test.YtcfddlfeldidjaaDoorIs1
import Derived.Test.YtcfddlfeldidjaaDoorQx
namespace Go.Proofs.YtcfddlfeldidjaaDoor
open Go.RowKit Go.BigFrame Go.ChangeShapes Go.WideShapes
set_option maxRecDepth 100000
set_option linter.unusedVariables false

theorem trail_nil (w : World) : Calls Tryd.prog 20 #[.nilIface] w fun e w' => e = .returned (.slice none 0 0) ∧ Fr none_ w w' := by
  have x1 := taNF
  go_enter Tryd.func20, Tryd.ntmps20
  go_wp2_with fail
  refine wp_loop_rounds 1 ?_
  rw [rounds_succ]
  go_wp2_with fail
  go_ret
  exact ⟨rfl, Fr.refl _ _⟩
theorem trail_join (b : Nat) (w : World) : Calls Tryd.prog 20 #[joinV b] w fun e w' => e = .returned (.slice none 0 0) ∧ Fr none_ w w' := by
  have x1 := taJF
  go_enter Tryd.func20, Tryd.ntmps20
  go_wp2_with fail
  refine wp_loop_rounds 1 ?_
  rw [rounds_succ]
  go_wp2_with fail
  go_ret
  exact ⟨rfl, Fr.refl _ _⟩
theorem info_parts {P : Program} {t : TypeId} {z : Option Value} {s b : Nat} (h : (P.info? t).map (fun i => (i.zero, i.size, i.bytes)) = some (z, s, b)) : ∃ i, P.info? t = some i ∧ i.zero = z ∧ i.size = s ∧ i.bytes = b := by
  obtain ⟨i, hi, e⟩ := Option.map_eq_some_iff.1 h
  injection e with e1 e2
  injection e2 with e2 e3
  exact ⟨i, hi, e1, e2, e3⟩
theorem string_info : (Tryd.prog.info? 9).map (fun i => (i.zero, i.size, i.bytes)) = some (some (.string noS), 1, 16) := by kernel_rfl
def TrailPost (p : ByteArray) (w : World) (e : Ending) (w' : World) : Prop := ∃ g c, e = .returned (.slice (some ⟨g, 0, none⟩) 1 c) ∧ w'.cell? ⟨g, 0, none⟩ = some (.string p) ∧ Fr none_ w w'
set_option maxHeartbeats 4000000 in
theorem trail_one (p : ByteArray) (s : Int) (b b2 : Nat) (w : World) (h : Blk w b 52 #[.string p, .int .i64 s, joinV b2]) : Calls Tryd.prog 20 #[fltV b] w (TrailPost p w) := by
  obtain ⟨i0, hi0, hz0, hs0, hb0⟩ := info_parts string_info
  have Hi := hid_ (And.intro hi0 (And.intro hz0 (And.intro hs0 hb0)))
  have c0 : w.cell? ⟨b, 0, none⟩ = some (.string p) := h.cell' rfl
  have H := hid_ h
  have x1 := taJF
  have x2 := taFF
  clear hi0 hz0 hs0 hb0 h
  go_enter Tryd.func20, Tryd.ntmps20
  go_wp2_with fail
  refine wp_loop_rounds 2 ?_
  rw [rounds_succ]
  go_wp2_with (at_builtin; refine wpList_append_any _ rfl (.tmp 18) (.tmp 23) 39 rfl w.heap.size 9 i0 _ 1 16 Tryd.underlying39 Hi.out.1 Hi.out.2.1 Hi.out.2.2.1 Hi.out.2.2.2 rfl (by omega) (.slice none 0 0) 0 [] rfl (World.ownsRow_nil _ _ _ _) (some ⟨w.heap.size, 0, none⟩) 1 1 [.string p] rfl (reads_new w _ [.string p] _ rfl) (by simp [Value.oneCell']) (by simp only [maxLen]; omega) (by omega) (by simp) ?_; intro A3 c3 w3 hown3 hgr3; have F3 : Hid (Fr none_ w w3 ∧ w3.ownsRow w.heap.size 9 1 (.slice A3 1 c3) 1 [.string p]) := hid_ ⟨((Fr.refl none_ w).alloc _).grown hgr3 (fun k hk => by simp [Value.ownBlock] at hk), hown3⟩; have c2 : w3.cell? ⟨b, 2, none⟩ = some (joinV b2) := (H.out.fr F3.out.1 id).cell' rfl; clear hown3 hgr3)
  rw [rounds_succ]
  go_wp2_with fail
  go_ret
  obtain ⟨A', c', e, _, _, hp⟩ := own_parts F3.out.2
  obtain ⟨g, hg, _, hc⟩ := hp (by omega)
  have e1 : A3 = A' := by injection e
  subst e1
  subst hg
  exact ⟨g, c3, rfl, hc 0 _ rfl, F3.out.1⟩

set_option maxHeartbeats 8000000 in
theorem others_walk (y : Wy) (c : Int) (place : ByteArray) (slot : Int) (w : World) (h : WyIn w y) (hL : Laid w) :
    Calls Tryd.prog 5 #[.agg (wyA y), .int .i64 c, .string place, .int .i64 slot] w fun e w' => e = .returned (.bool true) ∧ Fr none_ w w' := by
  obtain ⟨w0, hw0⟩ : ∃ w0, w0 = w.alloc (.cells (wyA y) 42) := ⟨_, rfl⟩
  have f0 : Fr none_ w w0 := by rw [hw0]; exact (Fr.refl none_ w).alloc _
  have b0 : Blk w0 w.heap.size 42 (wyA y) := by rw [hw0]; exact Blk.new w _ _
  have B0 := hid_ b0
  have H := hid_ (h.keep f0)
  have F0 := hid_ f0
  have HL := hid_ (hL.fr f0 id)
  have c0 : w0.cell? ⟨w.heap.size, 0, none⟩ = some (.slice y.A y.n y.c) := b0.cell' rfl
  have c1 : w0.cell? ⟨w.heap.size, 1, none⟩ = some (.slice y.B y.m y.d) := b0.cell' rfl
  have c2 : w0.cell? ⟨w.heap.size, 2, none⟩ = some (.int .i64 y.k) := b0.cell' rfl
  clear h hL f0 b0
  rw [hw0] at c0 c1 c2
  go_enter Tryd.func5, Tryd.ntmps5
  go_wp2_with fail
  clear c0 c1 c2
  change Calls _ _ _ (w.alloc (.cells (wyA y) 42)) _
  rw [← hw0]
  clear hw0
  refine (few1_ok y _ H.out).mono ?_
  rintro e w1 ⟨b, rfl, hb, hf1⟩
  have HB := hid_ hb
  have F1 := hid_ hf1
  have c0 : w1.cell? ⟨w.heap.size, 0, none⟩ = some (.slice y.A y.n y.c) := (B0.out.fr hf1 id).cell' rfl
  have c1 : w1.cell? ⟨w.heap.size, 1, none⟩ = some (.slice y.B y.m y.d) := (B0.out.fr hf1 id).cell' rfl
  have c2 : w1.cell? ⟨w.heap.size, 2, none⟩ = some (.int .i64 y.k) := (B0.out.fr hf1 id).cell' rfl
  clear hb hf1
  cases b with
  | false =>
    go_wp2_with fail
    refine (awake1 _ (HL.out.fr F1.out id)).mono ?_
    rintro e w2 ⟨rfl, hf2⟩
    have F2 := hid_ hf2
    clear hf2
    go_wp2_with fail
    go_ret
    exact ⟨rfl, (F0.out.then_none F1.out).then_none F2.out⟩
  | true =>
    go_wp2_with fail
    refine (made_ok y _ (H.out.keep F1.out)).mono ?_
    rintro e w2 ⟨v, rfl, hE, hf2⟩
    have HE := hid_ hE
    have F2 := hid_ (F1.out.then_none hf2)
    clear hE hf2 c0 c1 c2
    go_wp2_with fail
    refine (place_nil _).mono ?_
    rintro e w3 ⟨rfl, hf3⟩
    have F3 := hid_ (F2.out.then_none hf3)
    have HE3 := hid_ (HE.out.keep hf3)
    have c2 : ∀ x : Wx w3, x.to.cell? ⟨w.heap.size, 2, none⟩ = some (.int .i64 y.k) := fun x => x.cell ((B0.out.fr F3.out id).cell' rfl)
    clear hf3
    simp only [placeV]
    have HL3 := hid_ (HL.out.fr F3.out id)
    have X1 : Hid (∀ x : Wx w3, Calls Tryd.prog 19 #[v, .int .i64 c] x.to fun e w' => e = .returned (.bool (y.er.has c)) ∧ Fr none_ x.to w') := hid_ (fun x => (isE c y.er v _ (HE3.out.keep x.fr)).mono fun e w' h => ⟨h.1, by rw [← h.2]; exact Fr.refl _ _⟩)
    have X2 : Hid (∀ x : Wx w3, Calls Tryd.prog 12 #[.string place, .int .i64 slot, .nilIface] x.to fun e w' => e = .returned .nilIface ∧ Fr none_ x.to w') := hid_ (fun x => (at_nil place slot _).mono fun e w' h => ⟨h.1, by rw [← h.2]; exact Fr.refl _ _⟩)
    have X3 : Hid (∀ x : Wx w3, Calls Tryd.prog 16 #[.nilIface] x.to fun e w' => e = .returned (.int .i64 0) ∧ Fr none_ x.to w') := hid_ (fun x => code_nil _)
    have X4 : Hid (∀ x : Wx w3, Calls Tryd.prog 19 #[.nilIface, .int .i64 c] x.to fun e w' => e = .returned (.bool false) ∧ Fr none_ x.to w') := hid_ (fun x => (isF_nil c _).mono fun e w' h => ⟨h.1, by rw [← h.2]; exact Fr.refl _ _⟩)
    have X5 : Hid (∀ x : Wx w3, Calls Tryd.prog 20 #[.nilIface] x.to fun e w' => e = .returned (.slice none 0 0) ∧ Fr none_ x.to w') := hid_ (fun x => trail_nil _)
    have X6 : Hid (∀ x : Wx w3, Calls Tryd.prog 11 #[] x.to fun e w' => e = .returned (.bool true) ∧ Fr none_ x.to w') := hid_ (fun x => awake1 _ (HL3.out.fr x.fr id))
    have hh : y.er.has c = (y.k == c) := chE_has c _ _
    rw [hh] at X1
    clear hh
    by_cases hk : y.k = c
    · have k1 : (y.k == c) = true := by simpa using hk
      have k2 : (c == y.k) = true := by simpa using hk.symm
      rw [k1] at X1
      clear hk k1
      go_wp2_with fail
      refine wp_region_quiet_x (by kernel_rfl) (by kernel_rfl) ?_
      repeat (first | go_big_quiet_step ((first | (go_at_call 19; first | exact Calls.quiet_x (X1.out _) | exact Calls.quiet_x (X4.out _)) | (go_at_call 12; exact Calls.quiet_x (X2.out _)) | (go_at_call 16; exact Calls.quiet_x (X3.out _)) | (go_at_call 20; exact Calls.quiet_x (X5.out _)) | (go_at_call 11; exact Calls.quiet_x (X6.out _)))) | quiet_step ((first | (go_at_call 19; first | exact Calls.quiet_x (X1.out _) | exact Calls.quiet_x (X4.out _)) | (go_at_call 12; exact Calls.quiet_x (X2.out _)) | (go_at_call 16; exact Calls.quiet_x (X3.out _)) | (go_at_call 20; exact Calls.quiet_x (X5.out _)) | (go_at_call 11; exact Calls.quiet_x (X6.out _)))))
      refine wpQuiet_nil ?_
      intro _ hw'
      obtain ⟨xq, hw''⟩ := hw'
      subst hw''
      have FX := hid_ xq.fr
      go_wp2_with fail
      go_ret
      exact ⟨rfl, (F0.out.then_none F3.out).then_none FX.out⟩
    · have k1 : (y.k == c) = false := by simpa using hk
      have k2 : (c == y.k) = false := by simpa using fun e : c = y.k => hk e.symm
      rw [k1] at X1
      clear hk k1
      go_wp2_with fail
      refine wp_region_quiet_x (by kernel_rfl) (by kernel_rfl) ?_
      repeat (first | go_big_quiet_step ((first | (go_at_call 19; first | exact Calls.quiet_x (X1.out _) | exact Calls.quiet_x (X4.out _)) | (go_at_call 12; exact Calls.quiet_x (X2.out _)) | (go_at_call 16; exact Calls.quiet_x (X3.out _)) | (go_at_call 20; exact Calls.quiet_x (X5.out _)) | (go_at_call 11; exact Calls.quiet_x (X6.out _)))) | quiet_step ((first | (go_at_call 19; first | exact Calls.quiet_x (X1.out _) | exact Calls.quiet_x (X4.out _)) | (go_at_call 12; exact Calls.quiet_x (X2.out _)) | (go_at_call 16; exact Calls.quiet_x (X3.out _)) | (go_at_call 20; exact Calls.quiet_x (X5.out _)) | (go_at_call 11; exact Calls.quiet_x (X6.out _)))))
      refine wpQuiet_nil ?_
      intro _ hw'
      obtain ⟨xq, hw''⟩ := hw'
      subst hw''
      have FX := hid_ xq.fr
      go_wp2_with fail
      go_ret
      exact ⟨rfl, (F0.out.then_none F3.out).then_none FX.out⟩
theorem others_walk_i {H : Type} {enc : TypeId × Value → H} (v0 v1 : Value) (k c : Int) (place : ByteArray) (slot : Int) (w : World) (h0 : Conf enc Tryd.prog w (.slice 39) v0) (h1 : Conf enc Tryd.prog w (.slice 40) v1) (hL : Laid w) :
    Calls Tryd.prog 5 #[.agg #[v0, v1, .int .i64 k], .int .i64 c, .string place, .int .i64 slot] w fun e w' => e = .returned (.bool true) ∧ Fr none_ w w' := by
  obtain ⟨y, rfl, rfl, rfl, h⟩ := way_of k h0 h1
  exact others_walk y c place slot w h hL
end Go.Proofs.YtcfddlfeldidjaaDoor

/- errors.Join of two errors, by contract. -/
import Derived.Test.YtcfddlfeldidjaaDoorOthers1
import Derived.Deep.DeepAppendRoom
namespace Go.Proofs.YtcfddlfeldidjaaDoor
open Go.RowKit Go.BigFrame
set_option maxRecDepth 100000
set_option linter.unusedVariables false

theorem error_info : (Tryd.prog.info? 31).map (fun i => (i.zero, i.size, i.bytes)) = some (some .nilIface, 1, 16) := by kernel_rfl
def JoinPost1 (u v : Value) (w : World) (e : Ending) (w' : World) : Prop :=
  e = .returned (joinV (w.heap.size + 1)) ∧ Blk w' (w.heap.size + 1) 60 #[.slice (some ⟨w.heap.size, 0, none⟩) 2 2] ∧ Blk w' w.heap.size 31 #[u, v] ∧ Fr none_ w w'
theorem JoinPost1.er {u v : Value} {w w' : World} {e : Ending} (h : JoinPost1 u v w e w') {E F : Er} (hE : ErAt w E u) (hF : ErAt w F v) : ErAt w' (.join E F) (joinV (w.heap.size + 1)) :=
  ⟨_, _, _, _, _, rfl, h.2.1, h.2.2.1, hE.keep h.2.2.2, hF.keep h.2.2.2⟩
set_option maxHeartbeats 4000000 in
theorem join1_ok (b : Nat) (tx ty : TypeId) (vx vy : Value) (w : World) (h0 : w.cell? ⟨b, 0, none⟩ = some (.iface tx vx)) (h1 : w.cell? ⟨b, 1, none⟩ = some (.iface ty vy)) (hb : b < w.heap.size) :
    Calls Tryd.prog 21 #[.slice (some ⟨b, 0, none⟩) 2 2] w (JoinPost1 (.iface tx vx) (.iface ty vy) w) := by
  obtain ⟨i0, hi0, hz0, hs0, hb0⟩ := info_parts error_info
  have Hi := hid_ (And.intro hi0 (And.intro hz0 (And.intro hs0 hb0)))
  have hmk : ∀ w, (Instr.makeSlice 29 (.int .i64 0) (.int .i64 2)).run Tryd.prog w = .ok (.slice (some ⟨w.heap.size, 0, none⟩) 0 2) (w.alloc (.cells #[.nilIface, .nilIface] 31)) := fun _ => by kernel_rfl
  clear hi0 hz0 hs0 hb0
  go_enter Tryd.func21, Tryd.ntmps21
  go_wp2_with fail
  refine wp_loop_rounds 3 ?_
  rw [rounds_succ]
  go_wp2_with fail
  rw [rounds_succ]
  go_wp2_with fail
  rw [rounds_succ]
  go_wp2_with fail
  refine wp_loop_rounds 3 ?_
  rw [rounds_succ]
  go_wp2_with fail
  rw [rounds_succ]
  obtain ⟨wx, hwx⟩ : ∃ wx, wx = ((w.alloc (.cells #[.iface tx vx, .nilIface] 31)).alloc (.cells #[.slice (some ⟨w.heap.size, 0, none⟩) 1 2] 60)).alloc (.cells #[.iface tx vx] 31) := ⟨_, rfl⟩
  have fx : Fr none_ w wx := by rw [hwx]; exact (((Fr.refl none_ w).alloc _).alloc _).alloc _
  have b1 : Blk wx w.heap.size 31 #[.iface tx vx, .nilIface] := by rw [hwx]; exact ((Blk.new w _ _).alloc _).alloc _
  have b2 : Blk wx (w.heap.size + 1) 60 #[.slice (some ⟨w.heap.size, 0, none⟩) 1 2] := by
    have := Blk.new (w.alloc (.cells #[.iface tx vx, .nilIface] 31)) 60 #[.slice (some ⟨w.heap.size, 0, none⟩) 1 2]
    rw [World.size_alloc] at this
    rw [hwx]
    exact this.alloc _
  have ow : wx.ownsRow 0 31 1 (.slice (some ⟨w.heap.size, 0, none⟩) 1 2) 1 [.iface tx vx] := ⟨rfl, .inr ⟨w.heap.size, 2, _, rfl, Nat.zero_le _, b1, by omega, by unfold maxLen; omega, rfl, rfl⟩⟩
  have h1x := cellFr h1 fx
  have j0 : wx.cell? ⟨w.heap.size + 1, 0, none⟩ = some (.slice (some ⟨w.heap.size, 0, none⟩) 1 2) := b2.cell' rfl
  have FX := hid_ fx
  have B2 := hid_ b2
  have OW := hid_ ow
  have l1 := b2.lt
  have hsz := fx.size
  clear fx b1 b2 ow h0 h1
  change Code.wp _ _ _ _ (((w.alloc (.cells #[.iface tx vx, .nilIface] 31)).alloc (.cells #[.slice (some ⟨w.heap.size, 0, none⟩) 1 2] 60)).alloc (.cells #[.iface tx vx] 31))
  rw [← hwx]
  clear hwx hmk
  go_wp2_with (at_builtin; refine wpList_append_own_spare _ rfl (.tmp 38) (.tmp 40) 29 rfl 0 31 i0 1 Tryd.underlying29 Hi.out.1 Hi.out.2.2.1 w.heap.size 1 2 [.iface tx vx] rfl (own_none OW.out ((Fr.refl none_ wx).alloc _)) ⟨wx.heap.size, 0, none⟩ 1 1 [.iface ty vy] rfl rfl (one_new_at wx _ _ _ rfl) (by simp [Value.oneCell']) (by omega) ?_; intro w3 hown3 hgr3; have N3 : Hid (w3.ownsRow 0 31 1 (.slice (some ⟨w.heap.size, 0, none⟩) 2 2) 2 [.iface tx vx, .iface ty vy] ∧ Fr (only w.heap.size) wx w3) := hid_ ⟨hown3, (Fr.grown ((Fr.refl (only w.heap.size) wx).alloc _) hgr3 (fun k hk => .inl (Option.some.inj hk).symm))⟩; have k3 : Blk w3 (w.heap.size + 1) _ _ := B2.out.fr N3.out.2 (only_ne (by omega)); have j3 : w3.cell? ⟨w.heap.size + 1, 0, none⟩ = some (.slice (some ⟨w.heap.size, 0, none⟩) 1 2) := k3.cell' rfl; have f3 : w3.frozen? ⟨w.heap.size + 1, 0, none⟩ = false := k3.frozen 0; have K3 := hid_ k3; clear k3 hown3 hgr3)
  rw [rounds_succ]
  go_wp2_with fail
  go_ret
  have F4 := Fr.only1 w3 ⟨w.heap.size + 1, 0, none⟩ (.slice (some ⟨w.heap.size, 0, none⟩) 2 2)
  refine ⟨rfl, (K3.out.set_ 0 _), ?_, (FX.out.then_only N3.out.2 (.inr (Nat.le_refl _))).then_only F4 (.inr (by show w.heap.size ≤ w.heap.size + 1; omega))⟩
  have ho := own_fr N3.out.1 F4 (fun k hk e => by
    have e1 : w.heap.size = k := by simpa [Value.ownBlock] using hk
    have e2 : k = w.heap.size + 1 := e
    omega)
  rcases ho.2 with ⟨e, _⟩ | ⟨g, cap, cur, e, _, hg, _, _, hs, ht⟩
  · cases e
  · injection e with e1 e2 e3
    injection e1 with e1
    injection e1 with e1
    subst e1 e3
    have hc : cur = #[.iface tx vx, .iface ty vy] := by
      have h2 : cur.toList = [.iface tx vx, .iface ty vy] := by
        rw [← ht, List.take_of_length_le (by simp; omega)]
      exact Array.toList_inj.1 h2
    subst hc
    exact hg
end Go.Proofs.YtcfddlfeldidjaaDoor

/- Contracts of package epoch's Bin: a bin in memory is a list of items. -/
import Derived.Test.YtmindkphdakflaaDoorClkAwake
import Derived.Test.YtmindkphdakflaaDoorMore
import Derived.Deep.RegionLawGrows
import Derived.Test.YtmindkphdakflaaDoorHeldT
namespace Go.Proofs.YtmindkphdakflaaDoor
open Go.RowKit
set_option maxRecDepth 100000
set_option linter.unusedVariables false

/-- An item: its stamp, its chain (slot, generation), its page. -/
abbrev It := Int × Int × Int × Int
def itCells (p : It) : List Value := [.int .i64 p.1, .int .i64 p.2.1, .int .i64 p.2.2.1, .int .i64 p.2.2.2]
def itFlat (L : List It) : List Value := (L.map itCells).flatten
theorem itFlat_len (L : List It) : (itFlat L).length = L.length * 4 := by
  unfold itFlat
  induction L with
  | nil => rfl
  | cons p t ih => simp [itCells] at ih ⊢; omega
theorem itFlat_snoc (L : List It) (p : It) : itFlat (L ++ [p]) = itFlat L ++ itCells p := by simp [itFlat]
theorem item_info : (Tryd.prog.info? 47).map (fun i => (i.zero, i.size, i.bytes)) = some (some (.agg #[.int .i64 0, .int .i64 0, .int .i64 0, .int .i64 0]), 4, 32) := by kernel_rfl

abbrev IOwn (w : World) (v : Value) (L : List It) : Prop := w.ownsRow 0 47 4 v L.length (itFlat L)
structure Bn (w : World) (B : Nat) (v : Value) (L : List It) : Prop where
  hB : Blk w B 42 #[v]
  own : IOwn w v L

theorem IOwn.nil_ {w : World} {c : Nat} {L : List It} (h : IOwn w (.slice none L.length c) L) : L.length = 0 ∧ L.length = 0 := by
  rcases h.2 with ⟨_, h0⟩ | ⟨g, cap, cur, e, _⟩
  · exact ⟨h0, h0⟩
  · cases e
theorem IOwn.reads_ {w w1 : World} {A : Option Addr} {c : Nat} {L : List It} (h : IOwn w (.slice A L.length c) L) (hf : Fr none_ w w1) : ∀ b, A = some b → ∀ j u, (itFlat L)[j]? = some u → w1.cell? (b.add j) = some u := by
  intro b hb j u hu
  by_cases hn : 0 < L.length
  · obtain ⟨ad, e, hc⟩ := ((Reads.of_own h).none_fr hf).2 hn
    rw [hb] at e
    obtain rfl := Option.some.inj e
    exact hc j u hu
  · have : itFlat L = [] := List.eq_nil_of_length_eq_zero (by rw [itFlat_len]; omega)
    rw [this] at hu
    cases hu

set_option maxHeartbeats 1000000 in
theorem binAdd_ok (B : Nat) (A : Option Addr) (c : Nat) (L : List It) (p0 p1 p2 p3 : Int) (w : World) (h : Bn w B (.slice A L.length c) L) (hL : L.length ≤ 1000) :
    Calls Tryd.prog 16 #[.pointer (some ⟨B, 0, none⟩), .agg #[.int .i64 p0, .int .i64 p1, .int .i64 p2, .int .i64 p3]] w fun e w' => ∃ v', e = .returned (.tuple #[]) ∧ Bn w' B v' (L ++ [(p0, p1, p2, p3)]) ∧ Fr (only B) w w' := by
  obtain ⟨i0, hi0, hz0, hs0, hb0⟩ := info_parts item_info
  have Hi := hid_ (And.intro hi0 (And.intro hz0 (And.intro hs0 hb0)))
  have H := hid_ h
  have c0 : w.cell? ⟨B, 0, none⟩ = some (.slice A L.length c) := h.hB.cell' rfl
  have lB := h.hB.lt
  clear hi0 hz0 hs0 hb0 h
  go_enter Tryd.func16, Tryd.ntmps16
  go_wp2_with fail
  have hnn : A = none → L.length = 0 ∧ L.length = 0 := fun e => IOwn.nil_ (e ▸ H.out.own)
  have hlc : L.length ≤ c := by
    obtain ⟨A', c', e, hlc, _⟩ := own_parts H.out.own
    injection e with _ _ e
    omega
  have hS0 : (fun w' : World => w'.cell? ⟨B, 0, none⟩ = some (.slice A L.length c) ∧ w'.cell? ⟨w.heap.size, 0, none⟩ = some (.int .i64 p0) ∧ w'.cell? ⟨w.heap.size, 1, none⟩ = some (.int .i64 p1) ∧ w'.cell? ⟨w.heap.size, 2, none⟩ = some (.int .i64 p2) ∧ w'.cell? ⟨w.heap.size, 3, none⟩ = some (.int .i64 p3)) (w.alloc (.cells #[.int .i64 p0, .int .i64 p1, .int .i64 p2, .int .i64 p3] 47)).drew := by
    have hb := Blk.new w 47 #[.int .i64 p0, .int .i64 p1, .int .i64 p2, .int .i64 p3]
    exact ⟨(H.out.hB.alloc _).cell' rfl, hb.cell' rfl, hb.cell' rfl, hb.cell' rfl, hb.cell' rfl⟩
  refine wp_region_T (m := 21) (S := fun w' : World => w'.cell? ⟨B, 0, none⟩ = some (.slice A L.length c) ∧ w'.cell? ⟨w.heap.size, 0, none⟩ = some (.int .i64 p0) ∧ w'.cell? ⟨w.heap.size, 1, none⟩ = some (.int .i64 p1) ∧ w'.cell? ⟨w.heap.size, 2, none⟩ = some (.int .i64 p2) ∧ w'.cell? ⟨w.heap.size, 3, none⟩ = some (.int .i64 p3)) (by kernel_rfl) ?_
  refine wpAnyT_take (i := 0) (v := (.pointer (some ⟨B, 0, none⟩))) rfl (by kernel_rfl) (by kernel_rfl) (by kernel_rfl) (by kernel_rfl) (fun _ _ _ h => h) (.inl ⟨by simp [Region.wanted], fun w' hS => by obtain ⟨s0, s1, s2, s3, s4⟩ := hS; go_simp⟩) hS0 ?_
  refine wpAnyT_take (i := 1) (v := (.pointer (some ⟨B, 0, none⟩))) rfl (by kernel_rfl) (by kernel_rfl) (by kernel_rfl) (by kernel_rfl) (fun _ _ _ h => h) (.inl ⟨by simp [Region.wanted], fun w' hS => by obtain ⟨s0, s1, s2, s3, s4⟩ := hS; go_simp⟩) hS0 ?_
  refine wpAnyT_take (i := 2) (v := (.pointer (some ⟨B, 0, none⟩))) rfl (by kernel_rfl) (by kernel_rfl) (by kernel_rfl) (by kernel_rfl) (fun _ _ _ h => h) (.inl ⟨by simp [Region.wanted], fun w' hS => by obtain ⟨s0, s1, s2, s3, s4⟩ := hS; go_simp⟩) hS0 ?_
  refine wpAnyT_take (i := 3) (v := (.pointer (some ⟨B, 0, none⟩))) rfl (by kernel_rfl) (by kernel_rfl) (by kernel_rfl) (by kernel_rfl) (fun _ _ _ h => h) (.inl ⟨by simp [Region.wanted], fun w' hS => by obtain ⟨s0, s1, s2, s3, s4⟩ := hS; go_simp⟩) hS0 ?_
  refine wpAnyT_take (i := 4) (v := (.slice A L.length c)) rfl (by kernel_rfl) (by kernel_rfl) (by kernel_rfl) (by kernel_rfl) (fun _ _ _ h => h) (.inl ⟨by simp [Region.wanted], fun w' hS => by obtain ⟨s0, s1, s2, s3, s4⟩ := hS; go_simp⟩) hS0 ?_
  refine wpAnyT_take (i := 5) (v := (.pointer (some ⟨B, 0, none⟩))) rfl (by kernel_rfl) (by kernel_rfl) (by kernel_rfl) (by kernel_rfl) (fun _ _ _ h => h) (.inl ⟨by simp [Region.wanted], fun w' hS => by obtain ⟨s0, s1, s2, s3, s4⟩ := hS; go_simp⟩) hS0 ?_
  refine wpAnyT_take (i := 6) (v := (.pointer (some ⟨B, 0, none⟩))) rfl (by kernel_rfl) (by kernel_rfl) (by kernel_rfl) (by kernel_rfl) (fun _ _ _ h => h) (.inl ⟨by simp [Region.wanted], fun w' hS => by obtain ⟨s0, s1, s2, s3, s4⟩ := hS; go_simp⟩) hS0 ?_
  refine wpAnyT_take (i := 7) (v := (.pointer (some ⟨B, 0, none⟩))) rfl (by kernel_rfl) (by kernel_rfl) (by kernel_rfl) (by kernel_rfl) (fun _ _ _ h => h) (.inl ⟨by simp [Region.wanted], fun w' hS => by obtain ⟨s0, s1, s2, s3, s4⟩ := hS; go_simp⟩) hS0 ?_
  refine wpAnyT_take (i := 8) (v := (.slice A L.length c)) rfl (by kernel_rfl) (by kernel_rfl) (by kernel_rfl) (by kernel_rfl) (fun _ _ _ h => h) (.inl ⟨by simp [Region.wanted], fun w' hS => by obtain ⟨s0, s1, s2, s3, s4⟩ := hS; go_simp⟩) hS0 ?_
  refine wpAnyT_take (i := 9) (v := (.int .i64 L.length)) rfl (by kernel_rfl) (by kernel_rfl) (by kernel_rfl) (by kernel_rfl) (fun _ _ _ h => h) (.inl ⟨by simp [Region.wanted], fun w' hS => by obtain ⟨s0, s1, s2, s3, s4⟩ := hS; go_simp⟩) hS0 ?_
  refine wpAnyT_take (i := 10) (v := (.pointer (some ⟨B, 0, none⟩))) rfl (by kernel_rfl) (by kernel_rfl) (by kernel_rfl) (by kernel_rfl) (fun _ _ _ h => h) (.inl ⟨by simp [Region.wanted], fun w' hS => by obtain ⟨s0, s1, s2, s3, s4⟩ := hS; go_simp⟩) hS0 ?_
  refine wpAnyT_take (i := 11) (v := (.pointer (some ⟨B, 0, none⟩))) rfl (by kernel_rfl) (by kernel_rfl) (by kernel_rfl) (by kernel_rfl) (fun _ _ _ h => h) (.inl ⟨by simp [Region.wanted], fun w' hS => by obtain ⟨s0, s1, s2, s3, s4⟩ := hS; go_simp⟩) hS0 ?_
  refine wpAnyT_take (i := 12) (v := (.pointer (some ⟨B, 0, none⟩))) rfl (by kernel_rfl) (by kernel_rfl) (by kernel_rfl) (by kernel_rfl) (fun _ _ _ h => h) (.inl ⟨by simp [Region.wanted], fun w' hS => by obtain ⟨s0, s1, s2, s3, s4⟩ := hS; go_simp⟩) hS0 ?_
  refine wpAnyT_take (i := 13) (v := (.slice A L.length c)) rfl (by kernel_rfl) (by kernel_rfl) (by kernel_rfl) (by kernel_rfl) (fun _ _ _ h => h) (.inl ⟨by simp [Region.wanted], fun w' hS => by obtain ⟨s0, s1, s2, s3, s4⟩ := hS; go_simp⟩) hS0 ?_
  refine wpAnyT_take (i := 14) (v := (.int .i64 L.length)) rfl (by kernel_rfl) (by kernel_rfl) (by kernel_rfl) (by kernel_rfl) (fun _ _ _ h => h) (.inl ⟨by simp [Region.wanted], fun w' hS => by obtain ⟨s0, s1, s2, s3, s4⟩ := hS; go_simp⟩) hS0 ?_
  refine wpAnyT_take (i := 15) (v := (.slice A L.length L.length)) rfl (by kernel_rfl) (by kernel_rfl) (by kernel_rfl) (by kernel_rfl) (fun _ _ _ h => h) (.inl ⟨by simp [Region.wanted], fun w' hS => by obtain ⟨s0, s1, s2, s3, s4⟩ := hS; go_simp⟩) hS0 ?_
  refine wpAnyT_take (i := 16) (v := (.agg #[.int .i64 p0, .int .i64 p1, .int .i64 p2, .int .i64 p3])) rfl (by kernel_rfl) (by kernel_rfl) (by kernel_rfl) (by kernel_rfl) (fun _ _ _ h => h) (.inl ⟨by simp [Region.wanted], fun w' hS => by obtain ⟨s0, s1, s2, s3, s4⟩ := hS; go_simp⟩) hS0 ?_
  refine wpAnyT_one (i := 17) rfl rfl (by kernel_rfl) ?_
  go_simp
  refine wpAnyT_step (i := 18) rfl rfl (by kernel_rfl) ?_
  refine step_append_grows rfl (.tmp 21) (.tmp 23) 40 rfl 47 i0 _ 4 32 Tryd.underlying40 Hi.out.1 Hi.out.2.1 Hi.out.2.2.1 Hi.out.2.2.2 rfl (by omega) A L.length L.length (itFlat L) rfl hnn (itFlat_len L) (IOwn.reads_ H.out.own (by repeat (first | exact Fr.refl _ _ | apply Fr.drew | apply Fr.alloc))) ⟨w.heap.size + 1, 0, none⟩ 1 1 (itCells (p0, p1, p2, p3)) rfl rfl ?c1 (by simp [itCells, Value.oneCell']) (by omega) (by simp only [maxLen]; omega) (by omega) ?_
  case c1 =>
    intro j u hu
    have hb := (Blk.new (w.alloc (.cells #[.int .i64 p0, .int .i64 p1, .int .i64 p2, .int .i64 p3] 47)) 47 #[.int .i64 p0, .int .i64 p1, .int .i64 p2, .int .i64 p3]).drew
    rw [World.size_alloc] at hb
    rw [add_lit, Nat.zero_add]
    exact hb.cell' (by simpa [itCells] using hu)
  intro v1 w3 hown3 hgr3
  obtain ⟨A1, c1, rfl⟩ := hown3.shape
  have F3 : Hid (Fr none_ w w3) := hid_ (Fr.grown (row := none) (by repeat (first | exact Fr.refl _ _ | apply Fr.drew | apply Fr.alloc)) hgr3 (fun k hk => by cases hk))
  have O3 := hid_ hown3
  have B3 := hid_ (H.out.hB.fr F3.out id)
  have hb1 := (Blk.new w 47 #[.int .i64 p0, .int .i64 p1, .int .i64 p2, .int .i64 p3])
  have hb3 := hid_ (((hb1.alloc (.cells #[.int .i64 p0, .int .i64 p1, .int .i64 p2, .int .i64 p3] 47)).drew).grown hgr3 (by simp))
  clear hown3 hgr3 hb1
  have d0 : w3.cell? ⟨B, 0, none⟩ = some (.slice A L.length c) := B3.out.cell' rfl
  have d1 : w3.cell? ⟨w.heap.size, 0, none⟩ = some (.int .i64 p0) := hb3.out.cell' rfl
  have d2 : w3.cell? ⟨w.heap.size, 1, none⟩ = some (.int .i64 p1) := hb3.out.cell' rfl
  have d3 : w3.cell? ⟨w.heap.size, 2, none⟩ = some (.int .i64 p2) := hb3.out.cell' rfl
  have d4 : w3.cell? ⟨w.heap.size, 3, none⟩ = some (.int .i64 p3) := hb3.out.cell' rfl
  refine ⟨.inr ⟨d0, d1, d2, d3, d4⟩, ?_⟩
  have f0 : w3.frozen? ⟨B, 0, none⟩ = false := B3.out.frozen 0
  refine wpAnyT_one (i := 19) rfl rfl (by kernel_rfl) ?_
  go_simp
  refine wpAnyT_one (i := 20) rfl rfl (by kernel_rfl) ?_
  go_simp
  refine wpAnyT_one (i := 21) rfl rfl (by kernel_rfl) ?_
  go_simp
  refine wpAnyT_done (by kernel_rfl) ?_ _
  have F4 : Fr (only B) w (w3.setCell ⟨B, 0, none⟩ (.slice A1 (L.length + 1) c1)) := F3.out.toOnly (p := ⟨B, 0, none⟩) _
  refine bodyPost_end (v := .tuple #[]) (by simp [results, Tryd.results16, go_sem]) rfl ⟨_, rfl, ⟨B3.out.set_ 0 _, ?_⟩, F4⟩
  have e1 : (L ++ [(p0, p1, p2, p3)]).length = L.length + 1 := by simp
  unfold IOwn
  rw [e1, itFlat_snoc]
  refine own_base (own_fr O3.out (Fr.only1 w3 ⟨B, 0, none⟩ _) (fun k hk e => ?_)) (Nat.zero_le _)
  have := (O3.out.lt k hk).1
  obtain rfl : k = B := e
  simp at this
  omega
end Go.Proofs.YtmindkphdakflaaDoor

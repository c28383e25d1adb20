/- A view in memory of its own; contracts that tell one thing of both. Written by gen_asks8.py. -/
import Derived.Test.YtfoljojacakkeaaDoorDocB8
import Derived.Test.YtfoljojacakkeaaDoorErrOf
namespace Go.Proofs.YtfoljojacakkeaaDoor
open Go.RowKit Go.BigFrame Go.ChangeShapes Go.WideShapes
set_option maxRecDepth 100000
set_option linter.unusedVariables false

theorem own_blk8 {w : World} {base : Nat} {e : TypeId} {size n : Nat} {v : Value} {xs : List Value} (h : w.ownsRow base e size v n xs) {k : Nat} (hk : v.ownBlock = some k) : base ≤ k := by
  rcases h.2 with ⟨rfl, rfl⟩ | ⟨g, cap, cur, rfl, hb, hh, hc, hm, hs, ht⟩
  · simp [Value.ownBlock] at hk
  · obtain rfl : g = k := by simpa [Value.ownBlock] using hk
    exact hb
def GivenPost (V : Vw) (w : World) (e : Ending) (w' : World) : Prop :=
  ∃ A' c', e = .returned (vwV V (.slice A' V.ents.length c')) ∧ w'.ownsRow w.heap.size 60 2 (.slice A' V.ents.length c') V.ents.length (etFlat V.ents) ∧ Fr none_ w w'
set_option maxHeartbeats 8000000 in
theorem given_ok (V : Vw) (A : Option Addr) (c : Nat) (w : World) (h : VwIn w V A c) : Calls Tryd.prog 24 #[vwV V (.slice A V.ents.length c)] w (GivenPost V w) := by
  obtain ⟨i0, hi0, hz0, hs0, hb0⟩ := info_parts entry_info
  have Hi := hid_ (And.intro hi0 (And.intro hz0 (And.intro hs0 hb0)))
  have h1000 := h.ok.ents.1
  obtain ⟨w0, hw0⟩ : ∃ z, z = (w.alloc (.cells (vwA V (.slice A V.ents.length c)) 52)).alloc (.cells (vwA Vw.zero (.slice none 0 0)) 57) := ⟨_, rfl⟩
  have f0 : Fr none_ w w0 := by rw [hw0]; exact ((Fr.refl none_ w).alloc _).alloc _
  have BV : Hid (Blk w0 w.heap.size 52 (vwA V (.slice A V.ents.length c))) := hid_ (by rw [hw0]; exact (Blk.new w _ _).alloc _)
  have BO : Hid (Blk w0 (w.heap.size + 1) 57 (vwA Vw.zero (.slice none 0 0))) := hid_ (by rw [hw0]; exact Blk.new_at _ _ (by simp))
  have F0 := hid_ f0
  have RD := hid_ (h.keep f0).rd
  clear hi0 hz0 hs0 hb0 f0 h
  go_enter Tryd.func24, Tryd.ntmps24
  go_upto_region 1 with fail
  change Code.wp _ _ _ _ ((w.alloc (.cells (vwA V (.slice A V.ents.length c)) 52)).alloc (.cells (vwA Vw.zero (.slice none 0 0)) 57))
  rw [← hw0]
  clear hw0
  have hS : (fun w' : World => Blk w' w.heap.size 52 (vwA V (.slice A V.ents.length c))) w0.drew := BV.out.drew
  refine wp_region_U (m := 18) (S := (fun w' : World => Blk w' w.heap.size 52 (vwA V (.slice A V.ents.length c)))) (by kernel_rfl) ?_
  refine wpAnyU_take2 (i := 0) (v := _) rfl (by kernel_rfl) (by kernel_rfl) (by kernel_rfl) (by kernel_rfl) (fun _ _ _ h => h) (.inl ⟨by kernel_rfl, fun w' hS => by go_simp; rfl⟩) hS ?_
  refine wpAnyU_take2 (i := 1) (v := _) rfl (by kernel_rfl) (by kernel_rfl) (by kernel_rfl) (by kernel_rfl) (fun _ _ _ h => h) (.inl ⟨by kernel_rfl, fun w' hS => by have s_ : w'.cell? ⟨w.heap.size, 0, none⟩ = some (.string V.low) := hS.cell' rfl; go_simp; rfl⟩) hS ?_
  refine wpAnyU_take2 (i := 2) (v := _) rfl (by kernel_rfl) (by kernel_rfl) (by kernel_rfl) (by kernel_rfl) (fun _ _ _ h => h) (.inl ⟨by kernel_rfl, fun w' hS => by go_simp; rfl⟩) hS ?_
  refine wpAnyU_take2 (i := 3) (v := _) rfl (by kernel_rfl) (by kernel_rfl) (by kernel_rfl) (by kernel_rfl) (fun _ _ _ h => h) (.inl ⟨by kernel_rfl, fun w' hS => by have s_ : w'.cell? ⟨w.heap.size, 1, none⟩ = some (.string V.high) := hS.cell' rfl; go_simp; rfl⟩) hS ?_
  refine wpAnyU_take2 (i := 4) (v := _) rfl (by kernel_rfl) (by kernel_rfl) (by kernel_rfl) (by kernel_rfl) (fun _ _ _ h => h) (.inl ⟨by kernel_rfl, fun w' hS => by go_simp; rfl⟩) hS ?_
  refine wpAnyU_take2 (i := 5) (v := _) rfl (by kernel_rfl) (by kernel_rfl) (by kernel_rfl) (by kernel_rfl) (fun _ _ _ h => h) (.inl ⟨by kernel_rfl, fun w' hS => by have s_ : w'.cell? ⟨w.heap.size, 2, none⟩ = some (.bool V.unb) := hS.cell' rfl; go_simp; rfl⟩) hS ?_
  refine wpAnyU_take2 (i := 6) (v := _) rfl (by kernel_rfl) (by kernel_rfl) (by kernel_rfl) (by kernel_rfl) (fun _ _ _ h => h) (.inl ⟨by kernel_rfl, fun w' hS => by go_simp; rfl⟩) hS ?_
  refine wpAnyU_take2 (i := 7) (v := _) rfl (by kernel_rfl) (by kernel_rfl) (by kernel_rfl) (by kernel_rfl) (fun _ _ _ h => h) (.inl ⟨by kernel_rfl, fun w' hS => by have s_ : w'.cell? ⟨w.heap.size, 3, none⟩ = some (.int .i64 V.right) := hS.cell' rfl; go_simp; rfl⟩) hS ?_
  refine wpAnyU_take2 (i := 9) (v := _) rfl (by kernel_rfl) (by kernel_rfl) (by kernel_rfl) (by kernel_rfl) (fun _ _ _ h => h) (.inl ⟨by kernel_rfl, fun w' hS => by go_simp; rfl⟩) hS ?_
  refine wpAnyU_take2 (i := 10) (v := _) rfl (by kernel_rfl) (by kernel_rfl) (by kernel_rfl) (by kernel_rfl) (fun _ _ _ h => h) (.inl ⟨by kernel_rfl, fun w' hS => by have s_ : w'.cell? ⟨w.heap.size, 4, none⟩ = some (.slice A V.ents.length c) := hS.cell' rfl; go_simp; rfl⟩) hS ?_
  refine wpAnyU_take2 (i := 12) (v := _) rfl (by kernel_rfl) (by kernel_rfl) (by kernel_rfl) (by kernel_rfl) (fun _ _ _ h => h) (.inl ⟨by kernel_rfl, fun w' hS => by go_simp; rfl⟩) hS ?_
  refine wpAnyU_take2 (i := 13) (v := _) rfl (by kernel_rfl) (by kernel_rfl) (by kernel_rfl) (by kernel_rfl) (fun _ _ _ h => h) (.inl ⟨by kernel_rfl, fun w' hS => by have s_ : w'.cell? ⟨w.heap.size, 5, none⟩ = some (.bool V.held) := hS.cell' rfl; go_simp; rfl⟩) hS ?_
  refine wpAnyU_take2 (i := 14) (v := _) rfl (by kernel_rfl) (by kernel_rfl) (by kernel_rfl) (by kernel_rfl) (fun _ _ _ h => h) (.inl ⟨by kernel_rfl, fun w' hS => by go_simp; rfl⟩) hS ?_
  refine wpAnyU_take2 (i := 15) (v := _) rfl (by kernel_rfl) (by kernel_rfl) (by kernel_rfl) (by kernel_rfl) (fun _ _ _ h => h) (.inl ⟨by kernel_rfl, fun w' hS => by have s_ : w'.cell? ⟨w.heap.size, 6, none⟩ = some (.int .i64 V.hp) := hS.cell' rfl; have s_1 : w'.cell? ⟨w.heap.size, 7, none⟩ = some (.int .i64 V.hl) := hS.cell' rfl; have s_2 : w'.cell? ⟨w.heap.size, 8, none⟩ = some (.string V.hk) := hS.cell' rfl; go_simp; rfl⟩) hS ?_
  refine wpAnyU_oneG (i := 8) rfl (by kernel_rfl) (by kernel_rfl) ?_
  go_simp
  refine ⟨hS.alloc _, ?_⟩
  obtain ⟨w1, hw1⟩ : ∃ z, z = w0.drew.alloc (.cells #[] 60) := ⟨_, rfl⟩
  have f1 : Fr none_ w0 w1 := by rw [hw1]; exact (Fr.refl none_ w0).drew.alloc _
  have OW : Hid (w1.ownsRow w.heap.size 60 2 (.slice (some ⟨w0.heap.size, 0, none⟩) 0 0) 0 []) := hid_ (by rw [hw1]; exact own_empty w0.drew 60 2 w.heap.size F0.out.size)
  have hS1 : Blk w1 w.heap.size 52 (vwA V (.slice A V.ents.length c)) := by rw [hw1]; exact hS.alloc _
  change wpAnyU _ _ _ _ _ _ _ _ _ (w0.drew.alloc (.cells #[] 60))
  rw [← hw1]
  clear hw1
  replace hS := hS1
  replace BO := hid_ (BO.out.fr f1 id)
  replace RD := hid_ (RD.out.none_fr f1)
  replace F0 := hid_ (F0.out.then_none f1)
  clear f1 hS1
  refine wpAnyU_oneG (i := 11) rfl (by kernel_rfl) (by kernel_rfl) ?_
  refine wp_append_any _ (.tmp 11) (.tmp 13) 34 rfl w.heap.size 60 i0 _ 2 24 Tryd.underlying34 Hi.out.1 Hi.out.2.1 Hi.out.2.2.1 Hi.out.2.2.2 rfl (by omega) (.slice (some ⟨w0.heap.size, 0, none⟩) 0 0) 0 [] rfl OW.out A V.ents.length c (etFlat V.ents) rfl RD.out (etFlat_one _) (by simp only [maxLen]; omega) (by omega) F0.out.size ?_
  intro A9 c9 w2 hown hgr
  have OW2 : Hid (w2.ownsRow w.heap.size 60 2 (.slice A9 V.ents.length c9) V.ents.length (etFlat V.ents)) := hid_ (by simpa using hown)
  rw [Nat.zero_add]
  have hS2 := hS.grown hgr (Ne.symm (own_blk_ne OW.out hS (by decide)))
  have BO2 := hid_ (BO.out.grown hgr (Ne.symm (own_blk_ne OW.out BO.out (by decide))))
  have F2 := hid_ (F0.out.grown hgr (fun k hk => .inr (own_blk8 OW.out hk)))
  refine ⟨.inr hS2, ?_⟩
  clear hown hgr hS BO F0 OW RD
  refine wpAnyU_take2 (i := 16) (v := _) rfl (by kernel_rfl) (by kernel_rfl) (by kernel_rfl) (by kernel_rfl) (fun _ _ _ h => h) (.inl ⟨by kernel_rfl, fun w' hS => by go_simp; rfl⟩) hS2 ?_
  refine wpAnyU_oneG (i := 17) rfl (by kernel_rfl) (by kernel_rfl) ?_
  refine wp_store_mid 57 (.tmp 2) (.tmp 19) rfl (w.heap.size + 1) 0 (vwA V (.slice A9 V.ents.length c9)) rfl rfl (BO2.out.there0 rfl) vw_size (by simp [Value.oneCell']) ?_
  obtain ⟨w5, hw5⟩ : ∃ z, z = w2.setCells (w.heap.size + 1) 0 (vwA V (.slice A9 V.ents.length c9)).toList := ⟨_, rfl⟩
  have ov := BO2.out.over (vwA V (.slice A9 V.ents.length c9)).toList rfl
  rw [← hw5] at ov
  have Q5 : Hid (Blk w5 (w.heap.size + 1) 57 (vwA V (.slice A9 V.ents.length c9))) := hid_ ov.1
  have F5 := hid_ (F2.out.then_only ov.2 (.inr (by omega)))
  have O5 := hid_ (own_fr OW2.out ov.2 (fun k hk e => own_blk_ne OW2.out BO2.out (by decide) (by rw [hk, show k = w.heap.size + 1 from e])))
  refine ⟨.inr (by rw [← hw5]; exact hS2.fr ov.2 (only_ne (by omega))), ?_⟩
  change wpAnyU _ _ _ _ _ _ _ _ _ (w2.setCells (w.heap.size + 1) 0 (vwA V (.slice A9 V.ents.length c9)).toList)
  rw [← hw5]
  clear hw5 ov
  refine wpAnyU_done (by kernel_rfl) ?_ _
  go_wp2_with fail
  have q0 := Q5.out.cell' (i := 0) rfl
  have q1 := Q5.out.cell' (i := 1) rfl
  have q2 := Q5.out.cell' (i := 2) rfl
  have q3 := Q5.out.cell' (i := 3) rfl
  have q4 := Q5.out.cell' (i := 4) rfl
  have q5 := Q5.out.cell' (i := 5) rfl
  have q6 := Q5.out.cell' (i := 6) rfl
  have q7 := Q5.out.cell' (i := 7) rfl
  have q8 := Q5.out.cell' (i := 8) rfl
  refine bodyPost_ret (v := vwV V (.slice A9 V.ents.length c9)) ?_ rfl ⟨A9, c9, rfl, O5.out, F5.out⟩
  simp [results, Tryd.results24, go_sem, q0, q1, q2, q3, q4, q5, q6, q7, q8]
/-- A child's entry, or why there is none, as numbers. -/
def ChildIs (V : Vw) (key : ByteArray) (s : ByteArray) (n k : Int) : Prop := (childM V key = some (s, n) ∧ k = 0) ∨ (childM V key = none ∧ s = nilS ∧ n = 0 ∧ k = 2)
theorem ChildIs.uniq {V : Vw} {key s s' : ByteArray} {n k n' k' : Int} (h : ChildIs V key s n k) (h' : ChildIs V key s' n' k') : s = s' ∧ n = n' ∧ k = k' := by
  rcases h with ⟨h, rfl⟩ | ⟨h, rfl, rfl, rfl⟩
  · rcases h' with ⟨h', rfl⟩ | ⟨h', _⟩
    · rw [h] at h'; injection h' with h'; injection h' with e1 e2; exact ⟨e1, e2, rfl⟩
    · rw [h] at h'; cases h'
  · rcases h' with ⟨h', _⟩ | ⟨_, rfl, rfl, rfl⟩
    · rw [h] at h'; cases h'
    · exact ⟨rfl, rfl, rfl⟩
theorem child_x (V : Vw) (A : Option Addr) (c : Nat) (key : ByteArray) (w : World) (h : VwIn w V A c) (hk : SzOk key) :
    Calls Tryd.prog 25 #[vwV V (.slice A V.ents.length c), .string key] w fun e w' => ∃ s n k, ChildIs V key s n k ∧ e = .returned (.tuple #[.agg #[.string s, .int .i64 n], errOf k]) ∧ Fr none_ w w' :=
  (child_ok V A c key w h hk).mono fun e w' hh => by
    rcases hh with ⟨⟨p, h1, h2⟩ | ⟨h1, h2⟩, hf⟩
    · exact ⟨p.1, p.2, 0, .inl ⟨h1, rfl⟩, h2, hf⟩
    · exact ⟨nilS, 0, 2, .inr ⟨h1, rfl, rfl, rfl⟩, h2, hf⟩
theorem rchild_x (V : Vw) (A : Option Addr) (c : Nat) (key : ByteArray) (w : World) (h : VwIn w V A c) (hk : SzOk key) (hr : Rising V.ents) :
    Calls Tryd.prog 26 #[vwV V (.slice A V.ents.length c), .string key] w fun e w' => ∃ s n k, ChildIs V key s n k ∧ e = .returned (.tuple #[.agg #[.string s, .int .i64 n], .int .i64 k]) ∧ Fr none_ w w' :=
  (rchild_ok V A c key w h hk).mono fun e w' hh => by
    rcases hh with ⟨⟨p, h1, h2⟩ | ⟨h1, h2⟩, hf⟩
    · rw [rchild_rising hr] at h1
      exact ⟨p.1, p.2, 0, .inl ⟨h1, rfl⟩, h2, hf⟩
    · rw [rchild_rising hr] at h1
      exact ⟨nilS, 0, 2, .inr ⟨h1, rfl, rfl, rfl⟩, h2, hf⟩
def HoldIs4 (V : Vw) (page : Int) (a b : Int) (c : ByteArray) (k : Int) : Prop := (HoldIs V page (some (a, b, c)) ∧ k = 0) ∨ (HoldIs V page none ∧ a = 0 ∧ b = 0 ∧ c = nilS ∧ k = 6)
theorem HoldIs4.uniq {V : Vw} {page a b k a' b' k' : Int} {c c' : ByteArray} (h : HoldIs4 V page a b c k) (h' : HoldIs4 V page a' b' c' k') : a = a' ∧ b = b' ∧ c = c' ∧ k = k' := by
  rcases h with ⟨h, rfl⟩ | ⟨h, rfl, rfl, rfl, rfl⟩
  · rcases h' with ⟨h', rfl⟩ | ⟨h', _⟩
    · have := h.uniq h'; injection this with e; injection e with e1 e2; injection e2 with e2 e3; exact ⟨e1, e2, e3, rfl⟩
    · have := h.uniq h'; cases this
  · rcases h' with ⟨h', _⟩ | ⟨_, rfl, rfl, rfl, rfl⟩
    · have := h.uniq h'; cases this
    · exact ⟨rfl, rfl, rfl, rfl⟩
theorem hold_x (V : Vw) (page : Int) (A : Option Addr) (c : Nat) (w : World) (h : VwIn w V A c) (hl : V.ents.length ≤ 1000) :
    Calls Tryd.prog 27 #[vwV V (.slice A V.ents.length c), .int .i64 page] w fun e w' => ∃ x y z k, HoldIs4 V page x y z k ∧ e = .returned (.tuple #[.agg #[.int .i64 x, .int .i64 y, .string z], errOf k]) ∧ Fr none_ w w' :=
  (hold4_nb V page A c w h (by omega)).mono fun e w' hh => by
    rcases hh with ⟨⟨h1, h2⟩ | ⟨x, y, z, h1, h2⟩, hf⟩
    · exact ⟨0, 0, nilS, 6, .inr ⟨h1, rfl, rfl, rfl, rfl⟩, h2, hf⟩
    · exact ⟨x, y, z, 0, .inl ⟨h1, rfl⟩, h2, hf⟩
theorem rhold_x (V : Vw) (page : Int) (A : Option Addr) (c : Nat) (w : World) (h : VwIn w V A c) (hl : V.ents.length ≤ 1000) :
    Calls Tryd.prog 28 #[vwV V (.slice A V.ents.length c), .int .i64 page] w fun e w' => ∃ x y z k, HoldIs4 V page x y z k ∧ e = .returned (.tuple #[.agg #[.int .i64 x, .int .i64 y, .string z], .int .i64 k]) ∧ Fr none_ w w' :=
  (rhold_ok V page A c w h hl).mono fun e w' hh => by
    rcases hh with ⟨⟨h1, h2⟩ | ⟨x, y, z, h1, h2⟩, hf⟩
    · exact ⟨0, 0, nilS, 6, .inr ⟨h1, rfl, rfl, rfl, rfl⟩, h2, hf⟩
    · exact ⟨x, y, z, 0, .inl ⟨h1, rfl⟩, h2, hf⟩
end Go.Proofs.YtfoljojacakkeaaDoor

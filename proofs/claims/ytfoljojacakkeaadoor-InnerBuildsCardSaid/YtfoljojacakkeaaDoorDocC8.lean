/- The document's Split and Grow. Written by gen_builds8.py. -/
import Derived.Test.YtfoljojacakkeaaDoorGiven8
import Derived.Test.YtfoljojacakkeaaDoorGrow8
namespace Go.Proofs.YtfoljojacakkeaaDoor
open Go.RowKit Go.BigFrame Go.ChangeShapes Go.WideShapes
set_option maxRecDepth 100000
set_option linter.unusedVariables false

/-- A record with no rows, whose entries are read where its slice says. -/
structure RecX (w : World) (R : Rc) (B : Option Addr) : Prop where
  rd : Reads w 2 B R.ents.length (etFlat R.ents)
  rows : R.rows = []
  len : R.ents.length ≤ 1000
theorem RecX.keep {w w' : World} {R : Rc} {B : Option Addr} (h : RecX w R B) (hf : Fr none_ w w') : RecX w' R B := ⟨h.rd.none_fr hf, h.rows, h.len⟩
theorem RecX.reads {w : World} {R : Rc} {B : Option Addr} (h : RecX w R B) : RecReads w R none B := ⟨by rw [h.rows]; exact Reads.nil_, h.rd⟩
theorem RecX.zero (w : World) : RecX w Rc.zero none := ⟨Reads.nil_, rfl, Nat.zero_le _⟩
theorem RecX.split (w : World) (k : ByteArray) (pg : Int) : RecX w (splitR k pg) none := ⟨Reads.nil_, rfl, Nat.zero_le _⟩
abbrev recX (R : Rc) (B : Option Addr) (d : Nat) : Value := recV R (.slice none R.rows.length 0) (.slice B R.ents.length d)
def SplitIs (V : Vw) (page : Int) (R1 R2 : Rc) (k : Int) : Prop :=
  (NoHalf V k ∧ R1 = Rc.zero ∧ R2 = Rc.zero) ∨ (∃ q : Et, V.held = false ∧ 2 ≤ V.ents.length ∧ V.ents[V.ents.length / 2]? = some q ∧ R1 = splitR q.1 page ∧ R2 = baseR (rightV V (V.ents.length / 2) q.1) ∧ k = 0)
theorem NoHalf.uniq {V : Vw} {k k' : Int} (h : NoHalf V k) (h' : NoHalf V k') : k = k' := by
  rcases h with ⟨h1, rfl⟩ | ⟨h1, _, rfl⟩ <;> rcases h' with ⟨h2, rfl⟩ | ⟨h2, _, rfl⟩
  · rfl
  · rw [h1] at h2; cases h2
  · rw [h1] at h2; cases h2
  · rfl
theorem NoHalf.not {V : Vw} {k : Int} (h : NoHalf V k) (h1 : V.held = false) (h2 : 2 ≤ V.ents.length) : False := by
  rcases h with ⟨h, _⟩ | ⟨_, h, _⟩
  · rw [h1] at h; cases h
  · omega
theorem SplitIs.uniq {V : Vw} {page : Int} {R1 R2 R1' R2' : Rc} {k k' : Int} (h : SplitIs V page R1 R2 k) (h' : SplitIs V page R1' R2' k') : R1 = R1' ∧ R2 = R2' ∧ k = k' := by
  rcases h with ⟨h, rfl, rfl⟩ | ⟨q, a1, a2, a3, rfl, rfl, rfl⟩ <;> rcases h' with ⟨h', rfl, rfl⟩ | ⟨q', b1, b2, b3, rfl, rfl, rfl⟩
  · exact ⟨rfl, rfl, h.uniq h'⟩
  · exact (h.not b1 b2).elim
  · exact (h'.not a1 a2).elim
  · obtain rfl := Option.some.inj (a3.symm.trans b3)
    exact ⟨rfl, rfl, rfl⟩
def GrowIs (V : Vw) (left right : Int) (R1 R2 R3 : Rc) (k : Int) : Prop :=
  (NoHalf V k ∧ R1 = Rc.zero ∧ R2 = Rc.zero ∧ R3 = Rc.zero) ∨ (∃ q : Et, V.held = false ∧ 2 ≤ V.ents.length ∧ V.ents[V.ents.length / 2]? = some q ∧ R1 = baseR (leftV V (V.ents.length / 2) q.1 right) ∧ R2 = baseR (rightV V (V.ents.length / 2) q.1) ∧ R3 = baseR (topV V q.1 left right) ∧ k = 0)
theorem GrowIs.uniq {V : Vw} {l r : Int} {R1 R2 R3 R1' R2' R3' : Rc} {k k' : Int} (h : GrowIs V l r R1 R2 R3 k) (h' : GrowIs V l r R1' R2' R3' k') : R1 = R1' ∧ R2 = R2' ∧ R3 = R3' ∧ k = k' := by
  rcases h with ⟨h, rfl, rfl, rfl⟩ | ⟨q, a1, a2, a3, rfl, rfl, rfl, rfl⟩ <;> rcases h' with ⟨h', rfl, rfl, rfl⟩ | ⟨q', b1, b2, b3, rfl, rfl, rfl, rfl⟩
  · exact ⟨rfl, rfl, rfl, h.uniq h'⟩
  · exact (h.not b1 b2).elim
  · exact (h'.not a1 a2).elim
  · obtain rfl := Option.some.inj (a3.symm.trans b3)
    exact ⟨rfl, rfl, rfl, rfl⟩
theorem base_recx {w : World} {V : Vw} {A : Option Addr} {c : Nat} (h : VwIn w V A c) : RecX w (baseR V) A := ⟨h.rd, rfl, h.ok.ents.1⟩
theorem own_recx {w : World} {V : Vw} {A : Option Addr} {c base : Nat} (h : w.ownsRow base 60 2 (.slice A V.ents.length c) V.ents.length (etFlat V.ents)) (hl : V.ents.length ≤ 1000) : RecX w (baseR V) A := ⟨Reads.of_own h, rfl, hl⟩
theorem split_x (V : Vw) (page : Int) (A : Option Addr) (c : Nat) (w : World) (h : VwIn w V A c) :
    Calls Tryd.prog 32 #[vwV V (.slice A V.ents.length c), .int .i64 page] w fun e w' => ∃ R1 R2 B1 d1 B2 d2 k, SplitIs V page R1 R2 k ∧ e = .returned (.tuple #[recX R1 B1 d1, recX R2 B2 d2, errOf k]) ∧ RecX w' R1 B1 ∧ RecX w' R2 B2 ∧ Fr none_ w w' :=
  (split_ok V page A c w h).mono fun e w' hh => by
    rcases hh with ⟨k, hk, rfl, hf⟩ | ⟨q, A', c', a1, a2, a3, rfl, ho, hok, hf⟩
    · exact ⟨Rc.zero, Rc.zero, none, 0, none, 0, k, .inl ⟨hk, rfl, rfl⟩, by rw [errOf_pos hk.ne]; rfl, RecX.zero _, RecX.zero _, hf⟩
    · exact ⟨_, _, none, 0, A', c', 0, .inr ⟨q, a1, a2, a3, rfl, rfl, rfl⟩, rfl, RecX.split _ _ _, own_recx ho hok.ents.1, hf⟩
theorem grow_x (V : Vw) (left right : Int) (A : Option Addr) (c : Nat) (w : World) (h : VwIn w V A c) :
    Calls Tryd.prog 34 #[vwV V (.slice A V.ents.length c), .int .i64 left, .int .i64 right] w fun e w' => ∃ R1 R2 R3 B1 d1 B2 d2 B3 d3 k, GrowIs V left right R1 R2 R3 k ∧ e = .returned (.tuple #[recX R1 B1 d1, recX R2 B2 d2, recX R3 B3 d3, errOf k]) ∧ RecX w' R1 B1 ∧ RecX w' R2 B2 ∧ RecX w' R3 B3 ∧ Fr none_ w w' :=
  (grow_ok V left right A c w h).mono fun e w' hh => by
    rcases hh with ⟨k, hk, rfl, hf⟩ | ⟨q, L, R, T, A1, A2, A3, c1, c2, c3, a1, a2, a3, rfl, rfl, rfl, rfl, o1, o2, o3, k1, k2, k3, hf⟩
    · exact ⟨Rc.zero, Rc.zero, Rc.zero, none, 0, none, 0, none, 0, k, .inl ⟨hk, rfl, rfl, rfl⟩, by rw [errOf_pos hk.ne]; rfl, RecX.zero _, RecX.zero _, RecX.zero _, hf⟩
    · exact ⟨_, _, _, A1, c1, A2, c2, A3, c3, 0, .inr ⟨q, a1, a2, a3, rfl, rfl, rfl, rfl⟩, rfl, own_recx o1 k1.ents.1, own_recx o2 k2.ents.1, own_recx o3 k3.ents.1, hf⟩
def whyI (V : Vw) : Int := if V.held = true then 13 else if V.ents.length < 2 then 2 else 0
theorem whyI_no {V : Vw} (h : whyI V ≠ 0) : NoHalf V (whyI V) := by
  unfold whyI at h ⊢
  split
  · exact .inl ⟨by assumption, rfl⟩
  · rename_i h1
    split
    · rename_i h2; exact .inr ⟨by simpa using h1, by omega, rfl⟩
    · rename_i h2; rw [if_neg h1, if_neg h2] at h; exact absurd rfl h
theorem whyI_yes {V : Vw} (h : whyI V = 0) : V.held = false ∧ 2 ≤ V.ents.length := by
  unfold whyI at h
  split at h
  · cases h
  · rename_i h1
    split at h
    · cases h
    · exact ⟨by simpa using h1, by omega⟩
theorem why_ok (V : Vw) (A : Option Addr) (c : Nat) (w : World) : Calls Tryd.prog 74 #[vwV V (.slice A V.ents.length c)] w fun e w' => e = .returned (.int .i64 (whyI V)) ∧ Fr none_ w w' := by
  have F0 := hid_ ((Fr.refl none_ w).alloc (.cells (vwA V (.slice A V.ents.length c)) 52))
  have W : Hid (∀ b, V.held = b → whyI V = if b = true then 13 else if V.ents.length < 2 then 2 else 0) := hid_ (fun b hb => by rw [← hb]; rfl)
  have BV := hid_ (Blk.new w 52 (vwA V (.slice A V.ents.length c)))
  obtain ⟨w0, hw0⟩ : ∃ z, z = w.alloc (.cells (vwA V (.slice A V.ents.length c)) 52) := ⟨_, rfl⟩
  rw [← hw0] at F0 BV
  cases hh : V.held with
  | true =>
    have v5 : w0.cell? ⟨w.heap.size, 5, none⟩ = some (.bool true) := by rw [← hh]; exact BV.out.cell' rfl
    have HH := hid_ hh
    clear hh
    go_enter Tryd.func74, Tryd.ntmps74
    go_upto_region 1 with fail
    change Code.wp _ _ _ _ (w.alloc (.cells (vwA V (.slice A V.ents.length c)) 52))
    rw [← hw0]
    clear hw0
    go_wp2_with fail
    go_ret
    exact ⟨by rw [W.out true HH.out]; rfl, F0.out⟩
  | false =>
    have v5 : w0.cell? ⟨w.heap.size, 5, none⟩ = some (.bool false) := by rw [← hh]; exact BV.out.cell' rfl
    have v4 : w0.cell? ⟨w.heap.size, 4, none⟩ = some (.slice A V.ents.length c) := BV.out.cell' rfl
    have HH := hid_ hh
    clear hh
    by_cases hl : V.ents.length < 2
    · have hd : decide ((V.ents.length : Int) < 2) = true := by simp; omega
      have HL := hid_ hl
      clear hl
      go_enter Tryd.func74, Tryd.ntmps74
      go_upto_region 1 with fail
      change Code.wp _ _ _ _ (w.alloc (.cells (vwA V (.slice A V.ents.length c)) 52))
      rw [← hw0]
      clear hw0
      go_wp2_with fail
      go_ret
      exact ⟨by rw [W.out false HH.out, if_neg (by simp), if_pos HL.out]; rfl, F0.out⟩
    · have hd : decide ((V.ents.length : Int) < 2) = false := by simp; omega
      have HL := hid_ hl
      clear hl
      go_enter Tryd.func74, Tryd.ntmps74
      go_upto_region 1 with fail
      change Code.wp _ _ _ _ (w.alloc (.cells (vwA V (.slice A V.ents.length c)) 52))
      rw [← hw0]
      clear hw0
      go_wp2_with fail
      go_ret
      exact ⟨by rw [W.out false HH.out, if_neg (by simp), if_neg HL.out]; rfl, F0.out⟩
/-- A slice of the same block, or none. -/
def SB (A B : Option Addr) : Prop := ∀ ad, B = some ad → ∃ a0, A = some a0 ∧ ad.block = a0.block
theorem SB.none_ (A : Option Addr) : SB A none := fun ad h => by cases h
def RSplitPost (V : Vw) (page : Int) (A : Option Addr) (w : World) (e : Ending) (w' : World) : Prop :=
  ∃ R1 R2 B1 d1 B2 d2 k, SplitIs V page R1 R2 k ∧ e = .returned (.tuple #[recX R1 B1 d1, recX R2 B2 d2, .int .i64 k]) ∧ RecX w' R1 B1 ∧ RecX w' R2 B2 ∧ SB A B1 ∧ SB A B2 ∧ Fr none_ w w'
theorem RecX.other {w w' : World} {R : Rc} {B : Option Addr} {g : Nat} (h : RecX w R B) (hf : Fr (only g) w w') (hg : ∀ ad, B = some ad → 0 < R.ents.length → ad.block ≠ g) : RecX w' R B := by
  refine ⟨?_, h.rows, h.len⟩
  rcases Nat.eq_zero_or_pos R.ents.length with h0 | h0
  · have hr := h.rd
    refine ⟨hr.1, fun hn => absurd hn (by omega)⟩
  · exact h.rd.fr hf (fun ad had => only_ne (hg ad had h0))
set_option maxHeartbeats 8000000 in
theorem rsplit_ok (V : Vw) (page : Int) (A : Option Addr) (c : Nat) (w : World) (h : VwIn w V A c) :
    Calls Tryd.prog 33 #[vwV V (.slice A V.ents.length c), .int .i64 page] w (RSplitPost V page A w) := by
  have HOL := hid_ (fun (h0 : 0 < V.ents.length) => h.rd.old (by decide) h0)
  have h1000 := h.ok.ents.1
  have hcapx := h.cap
  have hcmx := h.capm
  unfold maxLen at hcmx
  obtain ⟨w0, hw0⟩ : ∃ z, z = ((w.alloc (.cells (vwA V (.slice A V.ents.length c)) 52)).alloc (.cells (recA Rc.zero (.slice none 0 0) (.slice none 0 0)) 40)).alloc (.cells (recA Rc.zero (.slice none 0 0) (.slice none 0 0)) 40) := ⟨_, rfl⟩
  have f0 : Fr none_ w w0 := by rw [hw0]; exact (((Fr.refl none_ w).alloc _).alloc _).alloc _
  have BV : Hid (Blk w0 w.heap.size 52 (vwA V (.slice A V.ents.length c))) := hid_ (by rw [hw0]; exact ((Blk.new w _ _).alloc _).alloc _)
  have B1 : Hid (Blk w0 (w.heap.size + 1) 40 (recA Rc.zero (.slice none 0 0) (.slice none 0 0))) := hid_ (by rw [hw0]; exact (Blk.new_at _ _ (by simp)).alloc _)
  have B2 : Hid (Blk w0 (w.heap.size + 1 + 1) 40 (recA Rc.zero (.slice none 0 0) (.slice none 0 0))) := hid_ (by rw [hw0]; exact Blk.new_at _ _ (by simp))
  have H := hid_ (h.keep f0)
  have F := hid_ f0
  have hlast : w.heap.size + 1 + 1 < w0.heap.size := B2.out.lt
  clear f0
  go_enter Tryd.func33, Tryd.ntmps33
  go_upto_region 1 with fail
  change Code.wp _ _ _ _ (((w.alloc (.cells (vwA V (.slice A V.ents.length c)) 52)).alloc (.cells (recA Rc.zero (.slice none 0 0) (.slice none 0 0)) 40)).alloc (.cells (recA Rc.zero (.slice none 0 0) (.slice none 0 0)) 40))
  rw [← hw0]
  clear hw0
  clear h
  have v0 : w0.cell? ⟨w.heap.size, 0, none⟩ = some (.string V.low) := BV.out.cell' rfl
  have v1 : w0.cell? ⟨w.heap.size, 1, none⟩ = some (.string V.high) := BV.out.cell' rfl
  have v2 : w0.cell? ⟨w.heap.size, 2, none⟩ = some (.bool V.unb) := BV.out.cell' rfl
  have v3 : w0.cell? ⟨w.heap.size, 3, none⟩ = some (.int .i64 V.right) := BV.out.cell' rfl
  have v4 : w0.cell? ⟨w.heap.size, 4, none⟩ = some (.slice A V.ents.length c) := BV.out.cell' rfl
  have v5 : w0.cell? ⟨w.heap.size, 5, none⟩ = some (.bool V.held) := BV.out.cell' rfl
  have v6 : w0.cell? ⟨w.heap.size, 6, none⟩ = some (.int .i64 V.hp) := BV.out.cell' rfl
  have v7 : w0.cell? ⟨w.heap.size, 7, none⟩ = some (.int .i64 V.hl) := BV.out.cell' rfl
  have v8 : w0.cell? ⟨w.heap.size, 8, none⟩ = some (.string V.hk) := BV.out.cell' rfl
  go_wp2_with fail
  refine (why_ok V A c _).mono ?_
  rintro e w1 ⟨rfl, hf⟩
  replace H := hid_ (H.out.keep hf)
  replace F := hid_ (F.out.then_none hf)
  replace BV := hid_ (BV.out.fr hf id)
  replace B1 := hid_ (B1.out.fr hf id)
  replace B2 := hid_ (B2.out.fr hf id)
  clear hf
  clear v0 v1 v2 v3 v4 v5 v6 v7 v8
  by_cases hk : whyI V = 0
  rotate_left
  · have hd : (whyI V != 0) = true := by simp [hk]
    have HK := hid_ (whyI_no hk)
    clear hk
    go_upto_region 2 with fail
    have v0 : w1.cell? ⟨w.heap.size, 0, none⟩ = some (.string V.low) := BV.out.cell' rfl
    have v1 : w1.cell? ⟨w.heap.size, 1, none⟩ = some (.string V.high) := BV.out.cell' rfl
    have v2 : w1.cell? ⟨w.heap.size, 2, none⟩ = some (.bool V.unb) := BV.out.cell' rfl
    have v3 : w1.cell? ⟨w.heap.size, 3, none⟩ = some (.int .i64 V.right) := BV.out.cell' rfl
    have v4 : w1.cell? ⟨w.heap.size, 4, none⟩ = some (.slice A V.ents.length c) := BV.out.cell' rfl
    have v5 : w1.cell? ⟨w.heap.size, 5, none⟩ = some (.bool V.held) := BV.out.cell' rfl
    have v6 : w1.cell? ⟨w.heap.size, 6, none⟩ = some (.int .i64 V.hp) := BV.out.cell' rfl
    have v7 : w1.cell? ⟨w.heap.size, 7, none⟩ = some (.int .i64 V.hl) := BV.out.cell' rfl
    have v8 : w1.cell? ⟨w.heap.size, 8, none⟩ = some (.string V.hk) := BV.out.cell' rfl
    go_wp2_with fail
    refine (why_ok V A c _).mono ?_
    rintro e w2 ⟨rfl, hf⟩
    replace H := hid_ (H.out.keep hf)
    replace F := hid_ (F.out.then_none hf)
    replace BV := hid_ (BV.out.fr hf id)
    replace B1 := hid_ (B1.out.fr hf id)
    replace B2 := hid_ (B2.out.fr hf id)
    clear hf
    clear v0 v1 v2 v3 v4 v5 v6 v7 v8
    have hsz2 := F.out.size
    go_wp2_with (first | (refine wpList_store_mid rfl 40 (.tmp 4) (.tmp 12) rfl (w.heap.size + 1) 0 (recL ⟨Rc.zero, none, 0, none, 0⟩).toArray rfl rfl (B1.out.there0 rfl) rec_size8 (rec_one ⟨Rc.zero, none, 0, none, 0⟩) ?_; obtain ⟨wz0a, hwz0a⟩ : ∃ z, z = w2.setCells (w.heap.size + 1) 0 (recL ⟨Rc.zero, none, 0, none, 0⟩) := ⟨_, rfl⟩; have ovwz0a := Blk.over B1.out (recL ⟨Rc.zero, none, 0, none, 0⟩) rfl; rw [← hwz0a] at ovwz0a; change wpList _ _ _ _ _ (w2.setCells (w.heap.size + 1) 0 (recL ⟨Rc.zero, none, 0, none, 0⟩)); rw [← hwz0a]; clear hwz0a; replace B2 := hid_ (B2.out.fr ovwz0a.2 (only_ne (by omega))); replace B1 := hid_ ovwz0a.1; replace F := hid_ (F.out.then_only ovwz0a.2 (.inr (by omega))); clear ovwz0a) | (refine wpList_store_mid rfl 40 (.tmp 5) (.tmp 13) rfl (w.heap.size + 1 + 1) 0 (recL ⟨Rc.zero, none, 0, none, 0⟩).toArray rfl rfl (B2.out.there0 rfl) rec_size8 (rec_one ⟨Rc.zero, none, 0, none, 0⟩) ?_; obtain ⟨wz1a, hwz1a⟩ : ∃ z, z = wz0a.setCells (w.heap.size + 1 + 1) 0 (recL ⟨Rc.zero, none, 0, none, 0⟩) := ⟨_, rfl⟩; have ovwz1a := Blk.over B2.out (recL ⟨Rc.zero, none, 0, none, 0⟩) rfl; rw [← hwz1a] at ovwz1a; change wpList _ _ _ _ _ (wz0a.setCells (w.heap.size + 1 + 1) 0 (recL ⟨Rc.zero, none, 0, none, 0⟩)); rw [← hwz1a]; clear hwz1a; replace B1 := hid_ (B1.out.fr ovwz1a.2 (only_ne (by omega))); replace B2 := hid_ ovwz1a.1; replace F := hid_ (F.out.then_only ovwz1a.2 (.inr (by omega))); clear ovwz1a))
    have r0 := B1.out.cell' (i := 0) rfl
    have s0 := B2.out.cell' (i := 0) rfl
    have r1 := B1.out.cell' (i := 1) rfl
    have s1 := B2.out.cell' (i := 1) rfl
    have r2 := B1.out.cell' (i := 2) rfl
    have s2 := B2.out.cell' (i := 2) rfl
    have r3 := B1.out.cell' (i := 3) rfl
    have s3 := B2.out.cell' (i := 3) rfl
    have r4 := B1.out.cell' (i := 4) rfl
    have s4 := B2.out.cell' (i := 4) rfl
    have r5 := B1.out.cell' (i := 5) rfl
    have s5 := B2.out.cell' (i := 5) rfl
    have r6 := B1.out.cell' (i := 6) rfl
    have s6 := B2.out.cell' (i := 6) rfl
    have r7 := B1.out.cell' (i := 7) rfl
    have s7 := B2.out.cell' (i := 7) rfl
    have r8 := B1.out.cell' (i := 8) rfl
    have s8 := B2.out.cell' (i := 8) rfl
    have r9 := B1.out.cell' (i := 9) rfl
    have s9 := B2.out.cell' (i := 9) rfl
    have r10 := B1.out.cell' (i := 10) rfl
    have s10 := B2.out.cell' (i := 10) rfl
    have r11 := B1.out.cell' (i := 11) rfl
    have s11 := B2.out.cell' (i := 11) rfl
    have r12 := B1.out.cell' (i := 12) rfl
    have s12 := B2.out.cell' (i := 12) rfl
    have r13 := B1.out.cell' (i := 13) rfl
    have s13 := B2.out.cell' (i := 13) rfl
    have r14 := B1.out.cell' (i := 14) rfl
    have s14 := B2.out.cell' (i := 14) rfl
    refine bodyPost_ret (v := .tuple #[recV Rc.zero (.slice none 0 0) (.slice none 0 0), recV Rc.zero (.slice none 0 0) (.slice none 0 0), .int .i64 (whyI V)]) ?_ rfl ⟨Rc.zero, Rc.zero, none, 0, none, 0, whyI V, .inl ⟨HK.out, rfl, rfl⟩, rfl, RecX.zero _, RecX.zero _, SB.none_ _, SB.none_ _, F.out⟩
    simp [results, Tryd.results33, go_sem, Rc.zero, r0, s0, r1, s1, r2, s2, r3, s3, r4, s4, r5, s5, r6, s6, r7, s7, r8, s8, r9, s9, r10, s10, r11, s11, r12, s12, r13, s13, r14, s14]
  · have hd : (whyI V != 0) = false := by simp [hk]
    obtain ⟨hh, h2⟩ := whyI_yes hk
    clear hk
    obtain ⟨n, hn⟩ : ∃ n : Nat, (V.ents.length : Int) / 2 = n := ⟨V.ents.length / 2, by omega⟩
    have hnn : n = V.ents.length / 2 := by omega
    obtain ⟨q, hq⟩ := some_of_lt (L := V.ents) (i := n) (by omega)
    obtain ⟨b, off, rfl, hb, c0, c1⟩ := et_at H.out.rd hq
    obtain ⟨A5, hA5⟩ : ∃ A5, (if c = n then (some (⟨b, off, none⟩ : Addr)) else Option.map (fun x : Addr => x.add (n * 2)) (some (⟨b, off, none⟩ : Addr))) = A5 := ⟨_, rfl⟩
    have HL := hid_ (fun r => half_len hnn H.out h2 hq hA5 r)
    have HN := hid_ (And.intro hnn (And.intro hq (And.intro h2 hh)))
    have hnl : n < V.ents.length := by omega
    have hi1 : (n : Int) < (V.ents.length : Int) := by omega
    have hi0 : (0 : Int) ≤ (n : Int) := Int.natCast_nonneg _
    have hA5' : (if c = n then (some (⟨b, off, none⟩ : Addr)) else some ⟨b, off + n * 2, none⟩) = A5 := by
      rw [← hA5]
      split
      · rfl
      · simp [add_lit]
    have hbw : b < w.heap.size := HOL.out (by omega) _ rfl
    have h5b : ∀ ad, A5 = some ad → ad.block = b := by
      intro ad had
      rw [← hA5'] at had
      split at had
      · obtain rfl := Option.some.inj had; rfl
      · obtain rfl := Option.some.inj had; rfl
    have H5B := hid_ h5b
    clear hnn hq h2 hA5 hh h5b
    have v4 : w1.cell? ⟨w.heap.size, 4, none⟩ = some (.slice (some ⟨b, off, none⟩) V.ents.length c) := BV.out.cell' rfl
    go_upto_region 5 with fail
    clear v4 c0 c1 hd
    have v1 : w1.cell? ⟨w.heap.size, 1, none⟩ = some (.string V.high) := BV.out.cell' rfl
    have v2 : w1.cell? ⟨w.heap.size, 2, none⟩ = some (.bool V.unb) := BV.out.cell' rfl
    have v3 : w1.cell? ⟨w.heap.size, 3, none⟩ = some (.int .i64 V.right) := BV.out.cell' rfl
    have v4 : w1.cell? ⟨w.heap.size, 4, none⟩ = some (.slice (some ⟨b, off, none⟩) V.ents.length c) := BV.out.cell' rfl
    have hS : (fun w' : World => Fr none_ w1 w') w1.drew := (Fr.refl none_ w1).drew
    refine wp_region_U (m := 16) (S := (fun w' : World => Fr none_ w1 w')) (by kernel_rfl) ?_
    refine wpAnyU_take2 (i := 0) (v := _) rfl (by kernel_rfl) (by kernel_rfl) (by kernel_rfl) (by kernel_rfl) (fun _ _ _ h => h) (.inl ⟨by kernel_rfl, fun w' hS => by go_simp; rfl⟩) hS ?_
    refine wpAnyU_take2 (i := 1) (v := _) rfl (by kernel_rfl) (by kernel_rfl) (by kernel_rfl) (by kernel_rfl) (fun _ _ _ h => h) (.inl ⟨by kernel_rfl, fun w' hS => by go_simp; rfl⟩) hS ?_
    refine wpAnyU_take2 (i := 2) (v := _) rfl (by kernel_rfl) (by kernel_rfl) (by kernel_rfl) (by kernel_rfl) (fun _ _ _ h => h) (.inl ⟨by kernel_rfl, fun w' hS => by go_simp; rfl⟩) hS ?_
    refine wpAnyU_take2 (i := 3) (v := _) rfl (by kernel_rfl) (by kernel_rfl) (by kernel_rfl) (by kernel_rfl) (fun _ _ _ h => h) (.inl ⟨by kernel_rfl, fun w' hS => by go_simp; rfl⟩) hS ?_
    refine wpAnyU_take2 (i := 4) (v := _) rfl (by kernel_rfl) (by kernel_rfl) (by kernel_rfl) (by kernel_rfl) (fun _ _ _ h => h) (.inl ⟨by kernel_rfl, fun w' hS => by go_simp; rfl⟩) hS ?_
    refine wpAnyU_take2 (i := 5) (v := _) rfl (by kernel_rfl) (by kernel_rfl) (by kernel_rfl) (by kernel_rfl) (fun _ _ _ h => h) (.inl ⟨by kernel_rfl, fun w' hS => by have s_ := cellFr v1 hS; go_simp; rfl⟩) hS ?_
    refine wpAnyU_take2 (i := 6) (v := _) rfl (by kernel_rfl) (by kernel_rfl) (by kernel_rfl) (by kernel_rfl) (fun _ _ _ h => h) (.inl ⟨by kernel_rfl, fun w' hS => by go_simp; rfl⟩) hS ?_
    refine wpAnyU_take2 (i := 7) (v := _) rfl (by kernel_rfl) (by kernel_rfl) (by kernel_rfl) (by kernel_rfl) (fun _ _ _ h => h) (.inl ⟨by kernel_rfl, fun w' hS => by have s_ := cellFr v2 hS; go_simp; rfl⟩) hS ?_
    refine wpAnyU_take2 (i := 8) (v := _) rfl (by kernel_rfl) (by kernel_rfl) (by kernel_rfl) (by kernel_rfl) (fun _ _ _ h => h) (.inl ⟨by kernel_rfl, fun w' hS => by go_simp; rfl⟩) hS ?_
    refine wpAnyU_take2 (i := 9) (v := _) rfl (by kernel_rfl) (by kernel_rfl) (by kernel_rfl) (by kernel_rfl) (fun _ _ _ h => h) (.inl ⟨by kernel_rfl, fun w' hS => by have s_ := cellFr v3 hS; go_simp; rfl⟩) hS ?_
    refine wpAnyU_take2 (i := 10) (v := _) rfl (by kernel_rfl) (by kernel_rfl) (by kernel_rfl) (by kernel_rfl) (fun _ _ _ h => h) (.inl ⟨by kernel_rfl, fun w' hS => by go_simp; rfl⟩) hS ?_
    refine wpAnyU_take2 (i := 11) (v := _) rfl (by kernel_rfl) (by kernel_rfl) (by kernel_rfl) (by kernel_rfl) (fun _ _ _ h => h) (.inl ⟨by kernel_rfl, fun w' hS => by have s_ := cellFr v4 hS; go_simp; rfl⟩) hS ?_
    refine wpAnyU_take2 (i := 12) (v := _) rfl (by kernel_rfl) (by kernel_rfl) (by kernel_rfl) (by kernel_rfl) (fun _ _ _ h => h) (.inl ⟨by kernel_rfl, fun w' hS => by go_simp; rfl⟩) hS ?_
    refine wpAnyU_take2 (i := 13) (v := _) rfl (by kernel_rfl) (by kernel_rfl) (by kernel_rfl) (by kernel_rfl) (fun _ _ _ h => h) (.inl ⟨by kernel_rfl, fun w' hS => by have s_a := hA5'; have s_n := hi1; have s_0 := hi0; have s_c : (n : Int) ≤ (V.ents.length : Int) := (by omega); have s_d : (n : Int) ≤ (c : Int) := (by omega); go_simp; rfl⟩) hS ?_
    refine wpAnyU_take2 (i := 14) (v := _) rfl (by kernel_rfl) (by kernel_rfl) (by kernel_rfl) (by kernel_rfl) (fun _ _ _ h => h) (.inl ⟨by kernel_rfl, fun w' hS => by go_simp; rfl⟩) hS ?_
    clear v1 v2 v3 v4
    refine wpAnyU_oneG (i := 15) rfl (by kernel_rfl) (by kernel_rfl) ?_
    go_simp
    have hdl : (V.ents.drop n).length = V.ents.length - n := by simp
    rw [← hdl]
    refine (rbase_ok ({ V with low := q.1, ents := V.ents.drop n, held := false, hp := 0, hl := 0, hk := nilS } : Vw) A5 (c - n) _).mono ?_
    rintro e w2 ⟨rfl, hf⟩
    have hg := (Fr.refl none_ w1).drew.then_none hf
    have X2 := hid_ (show RecX w1 (baseR (rightV V n q.1)) A5 from base_recx (HL.out 0).2.2.1)
    replace F := hid_ (F.out.then_none hg)
    replace BV := hid_ (BV.out.fr hg id)
    replace B1 := hid_ (B1.out.fr hg id)
    replace B2 := hid_ (B2.out.fr hg id)
    replace X2 := hid_ (X2.out.keep hg)
    refine ⟨hg, ?_⟩
    clear hf hS
    have hsz2 := F.out.size
    refine wpAnyU_oneG (i := 16) rfl (by kernel_rfl) (by kernel_rfl) ?_
    refine wp_store_mid 40 (.tmp 4) (.tmp 28) rfl (w.heap.size + 1) 0 (recL ⟨splitR q.1 page, none, 0, none, 0⟩).toArray rfl rfl (B1.out.there0 rfl) rec_size8 (rec_one ⟨splitR q.1 page, none, 0, none, 0⟩) ?_
    refine ⟨.inl (by decide), ?_⟩
    obtain ⟨wz0, hwz0⟩ : ∃ z, z = w2.setCells (w.heap.size + 1) 0 (recL ⟨splitR q.1 page, none, 0, none, 0⟩) := ⟨_, rfl⟩
    have ovwz0 := Blk.over B1.out (recL ⟨splitR q.1 page, none, 0, none, 0⟩) rfl
    rw [← hwz0] at ovwz0
    change wpAnyU _ _ _ _ _ _ _ _ _ (w2.setCells (w.heap.size + 1) 0 (recL ⟨splitR q.1 page, none, 0, none, 0⟩))
    rw [← hwz0]
    clear hwz0
    replace B2 := hid_ (B2.out.fr ovwz0.2 (only_ne (by omega)))
    replace B1 := hid_ ovwz0.1
    replace F := hid_ (F.out.then_only ovwz0.2 (.inr (by omega)))
    replace X2 := hid_ (X2.out.other ovwz0.2 (fun ad had _ => by have := H5B.out ad had; omega))
    clear ovwz0
    refine wpAnyU_oneG (i := 17) rfl (by kernel_rfl) (by kernel_rfl) ?_
    refine wp_store_mid 40 (.tmp 5) (.tmp 41) rfl (w.heap.size + 1 + 1) 0 (recL ⟨baseR (rightV V n q.1), none, 0, A5, c - n⟩).toArray rfl rfl (B2.out.there0 rfl) rec_size8 (rec_one ⟨baseR (rightV V n q.1), none, 0, A5, c - n⟩) ?_
    refine ⟨.inl (by decide), ?_⟩
    obtain ⟨wz1, hwz1⟩ : ∃ z, z = wz0.setCells (w.heap.size + 1 + 1) 0 (recL ⟨baseR (rightV V n q.1), none, 0, A5, c - n⟩) := ⟨_, rfl⟩
    have ovwz1 := Blk.over B2.out (recL ⟨baseR (rightV V n q.1), none, 0, A5, c - n⟩) rfl
    rw [← hwz1] at ovwz1
    change wpAnyU _ _ _ _ _ _ _ _ _ (wz0.setCells (w.heap.size + 1 + 1) 0 (recL ⟨baseR (rightV V n q.1), none, 0, A5, c - n⟩))
    rw [← hwz1]
    clear hwz1
    replace B1 := hid_ (B1.out.fr ovwz1.2 (only_ne (by omega)))
    replace B2 := hid_ ovwz1.1
    replace F := hid_ (F.out.then_only ovwz1.2 (.inr (by omega)))
    replace X2 := hid_ (X2.out.other ovwz1.2 (fun ad had _ => by have := H5B.out ad had; omega))
    clear ovwz1
    refine wpAnyU_oneG (i := 18) rfl (by kernel_rfl) (by kernel_rfl) ?_
    go_simp
    refine wpAnyU_done (by kernel_rfl) ?_ _
    go_wp2_with fail
    have r0 := B1.out.cell' (i := 0) rfl
    have s0 := B2.out.cell' (i := 0) rfl
    have r1 := B1.out.cell' (i := 1) rfl
    have s1 := B2.out.cell' (i := 1) rfl
    have r2 := B1.out.cell' (i := 2) rfl
    have s2 := B2.out.cell' (i := 2) rfl
    have r3 := B1.out.cell' (i := 3) rfl
    have s3 := B2.out.cell' (i := 3) rfl
    have r4 := B1.out.cell' (i := 4) rfl
    have s4 := B2.out.cell' (i := 4) rfl
    have r5 := B1.out.cell' (i := 5) rfl
    have s5 := B2.out.cell' (i := 5) rfl
    have r6 := B1.out.cell' (i := 6) rfl
    have s6 := B2.out.cell' (i := 6) rfl
    have r7 := B1.out.cell' (i := 7) rfl
    have s7 := B2.out.cell' (i := 7) rfl
    have r8 := B1.out.cell' (i := 8) rfl
    have s8 := B2.out.cell' (i := 8) rfl
    have r9 := B1.out.cell' (i := 9) rfl
    have s9 := B2.out.cell' (i := 9) rfl
    have r10 := B1.out.cell' (i := 10) rfl
    have s10 := B2.out.cell' (i := 10) rfl
    have r11 := B1.out.cell' (i := 11) rfl
    have s11 := B2.out.cell' (i := 11) rfl
    have r12 := B1.out.cell' (i := 12) rfl
    have s12 := B2.out.cell' (i := 12) rfl
    have r13 := B1.out.cell' (i := 13) rfl
    have s13 := B2.out.cell' (i := 13) rfl
    have r14 := B1.out.cell' (i := 14) rfl
    have s14 := B2.out.cell' (i := 14) rfl
    refine bodyPost_ret (v := .tuple #[recX (splitR q.1 page) none 0, recX (baseR (rightV V n q.1)) A5 (c - n), .int .i64 0]) ?_ rfl ⟨_, _, none, 0, A5, c - n, 0, .inr ⟨q, HN.out.2.2.2, HN.out.2.2.1, by rw [← HN.out.1]; exact HN.out.2.1, rfl, by rw [← HN.out.1], rfl⟩, rfl, RecX.split _ _ _, X2.out, SB.none_ _, (fun ad had => ⟨_, rfl, H5B.out ad had⟩), F.out⟩
    simp [results, Tryd.results33, go_sem, baseR, splitR, Rc.zero, r0, s0, r1, s1, r2, s2, r3, s3, r4, s4, r5, s5, r6, s6, r7, s7, r8, s8, r9, s9, r10, s10, r11, s11, r12, s12, r13, s13, r14, s14]
end Go.Proofs.YtfoljojacakkeaaDoor

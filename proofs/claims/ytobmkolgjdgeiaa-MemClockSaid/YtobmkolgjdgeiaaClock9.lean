/- MemClock's walk. Written by gen_clock9.py. -/
import Derived.Test.YtobmkolgjdgeiaaFew9
import Derived.Test.YtobmkolgjdgeiaaMk9
import Derived.Test.YtobmkolgjdgeiaaAwake9
namespace Go.Proofs.Ytobmkolgjdgeiaa
open Go.RowKit Go.ChangeShapes Go.WideShapes
set_option maxRecDepth 100000
set_option linter.unusedVariables false

theorem own_ne_map {w : World} {base : Nat} {e : TypeId} {size n : Nat} {v : Value} {xs : List Value} (h : w.ownsRow base e size v n xs) {M : Nat} (hm : ∃ es cl, w.heap[M]? = some (.map es cl)) : v.ownBlock ≠ some M := by
  obtain ⟨es, cl, hm⟩ := hm
  rcases h.2 with ⟨rfl, _⟩ | ⟨g, cap, cur, rfl, _, hh, _⟩
  · simp [Value.ownBlock]
  · intro he
    have : g = M := by simpa [Value.ownBlock] using he
    subst this
    rw [hm] at hh
    cases hh
theorem Fr.then_mset {w w1 w2 : World} {m : Nat} {x : St} (h : Fr none_ w w1) (hf : Fr (mset m x) w1 w2) (hm : w.heap.size ≤ m) (hC : w.heap.size ≤ x.C) (hM : w.heap.size ≤ x.M) : Fr none_ w w2 :=
  h.trans hf (fun _ _ => id) (fun i hi e => by rcases e with rfl | rfl | rfl <;> omega)
/-- The document's clock in a box of the law's. -/
structure RcIn (w : World) (bk : Nat) (now q : Int) (S : List Int) (A : Option Addr) (c : Nat) : Prop where
  b : Blk w bk 35 #[.int .i64 now, .int .i64 q, .slice A S.length c]
  o : SOwn w (.slice A S.length c) S
section
variable {w w' : World} {bk m : Nat} {now q k : Int} {S : List Int} {A : Option Addr} {c n : Nat} {l : Lm} {x : St}
theorem RcIn.keep (h : RcIn w bk now q S A c) (hf : Fr none_ w w') : RcIn w' bk now q S A c := ⟨h.b.fr hf id, own_none h.o hf⟩
theorem RcIn.mset (h : RcIn w bk now q S A c) {k' now' : Int} {S' : List Int} (hM : Mk w m k' l x now' S' n) (hf : Fr (mset m x) w w') : RcIn w' bk now q S A c := by
  obtain ⟨cs, hc⟩ := hM.ck.blkC
  obtain ⟨es, cl, hm⟩ := hM.ck.objM
  refine ⟨h.b.fr hf ?_, own_fr h.o hf (fun k hk => ?_)⟩
  · rintro (e | e | e)
    · exact Blk.ne_ h.b hM.b (by decide) e
    · exact Blk.ne_ h.b hc (by decide) e
    · have hb := h.b
      unfold Blk at hb
      rw [e, hm] at hb
      cases hb
  · rintro (e | e | e)
    · exact own_blk_ne h.o hM.b (by decide) (e ▸ hk)
    · exact own_blk_ne h.o hc (by decide) (e ▸ hk)
    · exact own_ne_map h.o ⟨es, cl, hm⟩ (e ▸ hk)
theorem Mk.beside (h : Mk w m k l x now S n) {cs : Array Value} (hb : Blk w bk 35 cs) (hf : Fr (only bk) w w') : Mk w' m k l x now S n := by
  obtain ⟨cs', hc⟩ := h.ck.blkC
  obtain ⟨es, cl, hm⟩ := h.ck.objM
  refine ⟨h.b.fr hf (only_ne (Blk.ne_ h.b hb (by decide))), h.ck.fr hf (only_ne (Blk.ne_ hc hb (by decide))) (only_ne ?_)⟩
  rintro e
  unfold Blk at hb
  rw [← e, hm] at hb
  cases hb
end
/-- What the loop over the steps holds. -/
structure ClkL (w : World) (m bk : Nat) (l : Lm) (x : St) (q : Int) (tn k : Nat) (now : Int) (S : List Int) (A : Option Addr) (c : Nat) (wr : World) : Prop where
  st : ∃ (kk : Int) (n : Nat), Mk wr m kk l x now S n ∧ 0 ≤ kk ∧ kk ≤ k ∧ n ≤ k
  rc : RcIn wr bk now q S A c
  len : S.length = tn
  f : Fr none_ w wr
section
variable {w wr w1 w2 w3 : World} {m bk : Nat} {l : Lm} {x : St} {q : Int} {tn k : Nat} {now : Int} {S : List Int} {A : Option Addr} {c : Nat}
theorem ClkL.keep (h : ClkL w m bk l x q tn k now S A c wr) (hf : Fr none_ wr w1) : ClkL w m bk l x q tn k now S A c w1 := by
  obtain ⟨kk, n, h1, h2, h3, h4⟩ := h.st
  exact ⟨⟨kk, n, h1.keep hf, h2, h3, h4⟩, h.rc.keep hf, h.len, h.f.then_none hf⟩
theorem ClkL.skip_ (h : ClkL w m bk l x q tn k now S A c wr) : ClkL w m bk l x q tn (k + 1) now S A c wr := by
  obtain ⟨kk, n, h1, h2, h3, h4⟩ := h.st
  exact ⟨⟨kk, n, h1, h2, by omega, by omega⟩, h.rc, h.len, h.f⟩
/-- A step of both, and the box written. -/
theorem ClkL.next (h : ClkL w m bk l x q tn k now S A c wr) {kk : Int} {n : Nat} (hM0 : Mk wr m kk l x now S n) (h0 : 0 ≤ kk) (h1 : kk ≤ k) (hn : n ≤ k) {now' : Int} {S' : List Int} {A' : Option Addr} {c' : Nat}
    (hM : Mk w2 m (kk + 1) l x now' S' (n + 1)) (hf : Fr (mset m x) wr w2) (hms : w.heap.size ≤ m ∧ w.heap.size ≤ x.C ∧ w.heap.size ≤ x.M) (hbk : w.heap.size ≤ bk) (ho : SOwn w3 (.slice A' S'.length c') S') (hf3 : Fr none_ w2 w3) (hl : S'.length = S.length) :
    ClkL w m bk l x q tn (k + 1) now' S' A' c' (((w3.setCell ⟨bk, 0, none⟩ (.int .i64 now')).setCell ⟨bk, 1, none⟩ (.int .i64 q)).setCell ⟨bk, 2, none⟩ (.slice A' S'.length c')) := by
  have hb3 := ((h.rc.mset hM0 hf).keep hf3).b
  obtain ⟨b1, b2⟩ := box3 hb3 (.int .i64 now') (.int .i64 q) (.slice A' S'.length c')
  refine ⟨⟨kk + 1, n + 1, (hM.keep hf3).beside hb3 b2, by omega, by omega, by omega⟩, ⟨b1, own_fr ho b2 (fun k hk e => own_blk_ne ho hb3 (by decide) (e ▸ hk))⟩, by rw [hl]; exact h.len, ?_⟩
  exact ((h.f.then_mset hf hms.1 hms.2.1 hms.2.2).then_none hf3).then_only b2 (.inr hbk)
end
set_option maxHeartbeats 8000000 in
theorem clock9_walk (s p t r c q : Int) (A : Option Addr) (n cap : Nat) (L : List Dm) (w : World) (h : DmReads w A n L) (hm : n ≤ maxLen) :
    Calls Try.prog 3 #[.agg #[.int .i64 s, .int .i64 p, .int .i64 t, .int .i64 r, .int .i64 c, .int .i64 q], .slice A n cap] w fun e w' => e = .returned (.bool true) ∧ Fr none_ w w' := by
  by_cases hr : 4 ≤ s ∧ s ≤ 4096 ∧ 3 ≤ p ∧ p ≤ 256 ∧ 1 ≤ t ∧ t ≤ 64 ∧ 2 ≤ r ∧ r ≤ 64 ∧ 2 ≤ c ∧ c ≤ 64 ∧ 8 ≤ q ∧ q ≤ 1099511627776
  rotate_left
  · skip
    have E : decide (4 ≤ s ∧ s ≤ 4096 ∧ 3 ≤ p ∧ p ≤ 256 ∧ 1 ≤ t ∧ t ≤ 64 ∧ 2 ≤ r ∧ r ≤ 64 ∧ 2 ≤ c ∧ c ≤ 64 ∧ 8 ≤ q ∧ q ≤ 1099511627776) = false := decide_eq_false hr
    clear hr
    have h0 := h
    have H := hid_ h
    have F := hid_ (Fr.refl none_ w)
    clear h
    go_enter Try.func3, Try.ntmps3
    go_upto_region 1 with fail
    obtain ⟨w0, hw0⟩ : ∃ z, z = w.alloc (.cells #[.int .i64 s, .int .i64 p, .int .i64 t, .int .i64 r, .int .i64 c, .int .i64 q] 23) := ⟨_, rfl⟩
    have fw0 : Fr none_ w w0 := by rw [hw0]; exact (Fr.refl none_ w).alloc _
    have BL : Hid (Blk w0 w.heap.size 23 (#[.int .i64 s, .int .i64 p, .int .i64 t, .int .i64 r, .int .i64 c, .int .i64 q])) := hid_ (by rw [hw0]; exact Blk.new w _ _)
    replace H := hid_ (H.out.keep fw0)
    replace F := hid_ (F.out.then_none fw0)
    change Code.wp _ _ _ _ (w.alloc (.cells #[.int .i64 s, .int .i64 p, .int .i64 t, .int .i64 r, .int .i64 c, .int .i64 q] 23))
    rw [← hw0]
    clear hw0 fw0
    have v0 : w0.cell? ⟨w.heap.size, 0, none⟩ = some (.int .i64 s) := BL.out.cell' rfl
    have v1 : w0.cell? ⟨w.heap.size, 1, none⟩ = some (.int .i64 p) := BL.out.cell' rfl
    have v2 : w0.cell? ⟨w.heap.size, 2, none⟩ = some (.int .i64 t) := BL.out.cell' rfl
    have v3 : w0.cell? ⟨w.heap.size, 3, none⟩ = some (.int .i64 r) := BL.out.cell' rfl
    have v4 : w0.cell? ⟨w.heap.size, 4, none⟩ = some (.int .i64 c) := BL.out.cell' rfl
    have v5 : w0.cell? ⟨w.heap.size, 5, none⟩ = some (.int .i64 q) := BL.out.cell' rfl
    go_wp2_with fail
    refine (few9_ok _ _ _ _ _ _ _ rfl A n cap L _ H.out hm).mono ?_
    rintro e w1 ⟨⟨b, rfl, hb⟩, hf1⟩
    have HB := hid_ hb
    replace H := hid_ (H.out.keep hf1)
    replace F := hid_ (F.out.then_none hf1)
    replace BL := hid_ (BL.out.fr hf1 id)
    clear hf1 hb
    clear v0 v1 v2 v3 v4 v5
    have v0 : w1.cell? ⟨w.heap.size, 0, none⟩ = some (.int .i64 s) := BL.out.cell' rfl
    have v1 : w1.cell? ⟨w.heap.size, 1, none⟩ = some (.int .i64 p) := BL.out.cell' rfl
    have v2 : w1.cell? ⟨w.heap.size, 2, none⟩ = some (.int .i64 t) := BL.out.cell' rfl
    have v3 : w1.cell? ⟨w.heap.size, 3, none⟩ = some (.int .i64 r) := BL.out.cell' rfl
    have v4 : w1.cell? ⟨w.heap.size, 4, none⟩ = some (.int .i64 c) := BL.out.cell' rfl
    have v5 : w1.cell? ⟨w.heap.size, 5, none⟩ = some (.int .i64 q) := BL.out.cell' rfl
    cases b with
    | false =>
      go_wp2_with fail
      refine (awake9 _).mono ?_
      rintro e w9 ⟨rfl, hf9⟩
      have F9 := hid_ hf9
      clear hf9
      go_wp2_with fail
      go_ret
      exact ⟨rfl, (F.out).then_none F9.out⟩
    | true =>
      go_wp2_with fail
      refine (rright_any s p t r c q _).mono ?_
      rintro e w2 ⟨rfl, hf2⟩
      rw [E]
      replace H := hid_ (H.out.keep hf2)
      replace F := hid_ (F.out.then_none hf2)
      replace BL := hid_ (BL.out.fr hf2 id)
      clear hf2 E
      go_wp2_with fail
      refine (awake9 _).mono ?_
      rintro e w9 ⟨rfl, hf9⟩
      have F9 := hid_ hf9
      clear hf9
      go_wp2_with fail
      go_ret
      exact ⟨rfl, (F.out).then_none F9.out⟩
  obtain ⟨a1, a2, a3, a4, a5, a6, a7, a8, a9, a10, a11, a12⟩ := id hr
  obtain ⟨s', rfl⟩ : ∃ x : Nat, s = (x : Int) := ⟨s.toNat, by omega⟩
  obtain ⟨p', rfl⟩ : ∃ x : Nat, p = (x : Int) := ⟨p.toNat, by omega⟩
  obtain ⟨t', rfl⟩ : ∃ x : Nat, t = (x : Int) := ⟨t.toNat, by omega⟩
  have E := decide_eq_true hr
  have RT : Hid (Lm.Right ⟨s', p', (t' : Int), r, c, q⟩) := hid_ ⟨⟨a1, a2⟩, ⟨a3, a4⟩, ⟨a5, a6⟩, ⟨a7, a8⟩, ⟨a9, a10⟩, ⟨a11, a12⟩⟩
  clear hr a1 a2 a3 a4 a7 a8 a9 a10
  have h0 := h
  have H := hid_ h
  have F := hid_ (Fr.refl none_ w)
  clear h
  go_enter Try.func3, Try.ntmps3
  go_upto_region 1 with fail
  obtain ⟨w0, hw0⟩ : ∃ z, z = w.alloc (.cells #[.int .i64 (s' : Int), .int .i64 (p' : Int), .int .i64 (t' : Int), .int .i64 r, .int .i64 c, .int .i64 q] 23) := ⟨_, rfl⟩
  have fw0 : Fr none_ w w0 := by rw [hw0]; exact (Fr.refl none_ w).alloc _
  have BL : Hid (Blk w0 w.heap.size 23 (#[.int .i64 (s' : Int), .int .i64 (p' : Int), .int .i64 (t' : Int), .int .i64 r, .int .i64 c, .int .i64 q])) := hid_ (by rw [hw0]; exact Blk.new w _ _)
  replace H := hid_ (H.out.keep fw0)
  replace F := hid_ (F.out.then_none fw0)
  change Code.wp _ _ _ _ (w.alloc (.cells #[.int .i64 (s' : Int), .int .i64 (p' : Int), .int .i64 (t' : Int), .int .i64 r, .int .i64 c, .int .i64 q] 23))
  rw [← hw0]
  clear hw0 fw0
  have v0 : w0.cell? ⟨w.heap.size, 0, none⟩ = some (.int .i64 (s' : Int)) := BL.out.cell' rfl
  have v1 : w0.cell? ⟨w.heap.size, 1, none⟩ = some (.int .i64 (p' : Int)) := BL.out.cell' rfl
  have v2 : w0.cell? ⟨w.heap.size, 2, none⟩ = some (.int .i64 (t' : Int)) := BL.out.cell' rfl
  have v3 : w0.cell? ⟨w.heap.size, 3, none⟩ = some (.int .i64 r) := BL.out.cell' rfl
  have v4 : w0.cell? ⟨w.heap.size, 4, none⟩ = some (.int .i64 c) := BL.out.cell' rfl
  have v5 : w0.cell? ⟨w.heap.size, 5, none⟩ = some (.int .i64 q) := BL.out.cell' rfl
  go_wp2_with fail
  refine (few9_ok _ _ _ _ _ _ _ rfl A n cap L _ H.out hm).mono ?_
  rintro e w1 ⟨⟨b, rfl, hb⟩, hf1⟩
  have HB := hid_ hb
  replace H := hid_ (H.out.keep hf1)
  replace F := hid_ (F.out.then_none hf1)
  replace BL := hid_ (BL.out.fr hf1 id)
  clear hf1 hb
  clear v0 v1 v2 v3 v4 v5
  have v0 : w1.cell? ⟨w.heap.size, 0, none⟩ = some (.int .i64 (s' : Int)) := BL.out.cell' rfl
  have v1 : w1.cell? ⟨w.heap.size, 1, none⟩ = some (.int .i64 (p' : Int)) := BL.out.cell' rfl
  have v2 : w1.cell? ⟨w.heap.size, 2, none⟩ = some (.int .i64 (t' : Int)) := BL.out.cell' rfl
  have v3 : w1.cell? ⟨w.heap.size, 3, none⟩ = some (.int .i64 r) := BL.out.cell' rfl
  have v4 : w1.cell? ⟨w.heap.size, 4, none⟩ = some (.int .i64 c) := BL.out.cell' rfl
  have v5 : w1.cell? ⟨w.heap.size, 5, none⟩ = some (.int .i64 q) := BL.out.cell' rfl
  cases b with
  | false =>
    go_wp2_with fail
    refine (awake9 _).mono ?_
    rintro e w9 ⟨rfl, hf9⟩
    have F9 := hid_ hf9
    clear hf9
    go_wp2_with fail
    go_ret
    exact ⟨rfl, (F.out).then_none F9.out⟩
  | true =>
    have hn60 : n ≤ 60 := HB.out (by first | rfl | trivial)
    go_wp2_with fail
    refine (rright_any _ _ _ r c q _).mono ?_
    rintro e w2 ⟨rfl, hf2⟩
    rw [E]
    replace H := hid_ (H.out.keep hf2)
    replace F := hid_ (F.out.then_none hf2)
    replace BL := hid_ (BL.out.fr hf2 id)
    clear hf2 E
    clear v0 v1 v2 v3 v4 v5
    have v0 : w2.cell? ⟨w.heap.size, 0, none⟩ = some (.int .i64 (s' : Int)) := BL.out.cell' rfl
    have v1 : w2.cell? ⟨w.heap.size, 1, none⟩ = some (.int .i64 (p' : Int)) := BL.out.cell' rfl
    have v2 : w2.cell? ⟨w.heap.size, 2, none⟩ = some (.int .i64 (t' : Int)) := BL.out.cell' rfl
    have v3 : w2.cell? ⟨w.heap.size, 3, none⟩ = some (.int .i64 r) := BL.out.cell' rfl
    have v4 : w2.cell? ⟨w.heap.size, 4, none⟩ = some (.int .i64 c) := BL.out.cell' rfl
    have v5 : w2.cell? ⟨w.heap.size, 5, none⟩ = some (.int .i64 q) := BL.out.cell' rfl
    have hsz2 := F.out.size
    have H0 := hid_ h0
    go_wp2_with fail
    refine (memNew_ok (⟨s', p', (t' : Int), r, c, q⟩ : Lm) _ RT.out).mono ?_
    rintro e w3 ⟨m, a, G, vr, ve, T, Hh, C, M, rfl, hM, hf3, hm3, hC3, hM3⟩
    obtain ⟨x, hx⟩ : ∃ x : St, x = (⟨a, G, ⟨1, true, leafR, vr, ve⟩ :: List.replicate (s' - 1) Sl.zero, T, Hh, (true, 1, 1) :: List.replicate (p' - 1) (false, 0, 0), C, M, 1, 0, .map []⟩ : St) := ⟨_, rfl⟩
    have hls : (List.replicate t' (0 : Int)).length = t' := by simp
    have MK : Hid (Mk w3 m 0 (⟨s', p', (t' : Int), r, c, q⟩ : Lm) x 1 (List.replicate t' 0) 0) := hid_ (by
      rw [hx]
      exact ⟨hM.b, 0, .map [], Nat.le_refl _, by rw [hls]; exact hM.ck, Sim6.start t' q (by omega) (by omega) (by omega) a12⟩)
    have MS : Hid (w.heap.size ≤ m ∧ w.heap.size ≤ x.C ∧ w.heap.size ≤ x.M) := hid_ (by rw [hx]; exact ⟨by omega, by show w.heap.size ≤ C; omega, by show w.heap.size ≤ M; omega⟩)
    replace H := hid_ (H.out.keep hf3)
    replace F := hid_ (F.out.then_none hf3)
    replace BL := hid_ (BL.out.fr hf3 id)
    clear hf3 hM hm3 hC3 hM3 hx
    clear v0 v1 v2 v3 v4 v5
    have v0 : w3.cell? ⟨w.heap.size, 0, none⟩ = some (.int .i64 (s' : Int)) := BL.out.cell' rfl
    have v1 : w3.cell? ⟨w.heap.size, 1, none⟩ = some (.int .i64 (p' : Int)) := BL.out.cell' rfl
    have v2 : w3.cell? ⟨w.heap.size, 2, none⟩ = some (.int .i64 (t' : Int)) := BL.out.cell' rfl
    have v3 : w3.cell? ⟨w.heap.size, 3, none⟩ = some (.int .i64 r) := BL.out.cell' rfl
    have v4 : w3.cell? ⟨w.heap.size, 4, none⟩ = some (.int .i64 c) := BL.out.cell' rfl
    have v5 : w3.cell? ⟨w.heap.size, 5, none⟩ = some (.int .i64 q) := BL.out.cell' rfl
    go_wp2_with fail
    refine (rnew_ok t' q _ (by omega) (by omega) (by omega) a12).mono ?_
    rintro e w4 ⟨Ac, cc, rfl, ho, hf4⟩
    have SO := hid_ ho
    replace H := hid_ (H.out.keep hf4)
    replace F := hid_ (F.out.then_none hf4)
    replace BL := hid_ (BL.out.fr hf4 id)
    replace MK := hid_ (MK.out.keep hf4)
    clear hf4 ho
    clear v0 v1 v2 v3 v4 v5
    go_upto_region 7 with fail
    have hszw := F.out.size
    obtain ⟨w5, hw5⟩ : ∃ z, z = w4.alloc (.cells #[.int .i64 1, .int .i64 q, .slice Ac t' cc] 35) := ⟨_, rfl⟩
    have fw5 : Fr none_ w4 w5 := by rw [hw5]; exact (Fr.refl none_ w4).alloc _
    have BK : Hid (Blk w5 w4.heap.size 35 (#[.int .i64 1, .int .i64 q, .slice Ac t' cc])) := hid_ (by rw [hw5]; exact Blk.new w4 _ _)
    replace H := hid_ (H.out.keep fw5)
    replace F := hid_ (F.out.then_none fw5)
    replace BL := hid_ (BL.out.fr fw5 id)
    replace MK := hid_ (MK.out.keep fw5)
    replace SO := hid_ (own_none SO.out fw5)
    change Code.wp _ _ _ _ (w4.alloc (.cells #[.int .i64 1, .int .i64 q, .slice Ac t' cc] 35))
    rw [← hw5]
    clear hw5 fw5
    have HBK := hid_ hszw
    go_wp2_with fail
    go_loopw [47] (fun i wr => ∃ (k : Nat) (now : Int) (S : List Int) (Ac : Option Addr) (cc : Nat), k ≤ n ∧ i = .int .i64 k ∧ ClkL w m w4.heap.size (⟨s', p', (t' : Int), r, c, q⟩ : Lm) x q t' k now S Ac cc wr) (fun i _ => n - (intOf i).toNat)
    case atStart => exact ⟨0, 1, List.replicate t' 0, Ac, cc, Nat.zero_le _, rfl, ⟨0, 0, MK.out, by omega, by omega, by omega⟩, ⟨by rw [hls]; exact BK.out, SO.out⟩, by simp, F.out⟩
    case round =>
      obtain ⟨k, now, S, Ad, cd, hk, rfl, hCL⟩ := hrel
      have CL := hid_ hCL
      clear hCL
      have hi0 : (0 : Int) ≤ (k : Int) := Int.natCast_nonneg _
      by_cases hlt : k < n
      · skip
        obtain ⟨D, hD⟩ : ∃ D, L[k]? = some D := ⟨_, List.getElem?_eq_getElem (by have := H.out.1; omega)⟩
        obtain ⟨b, off, rfl, hb, hR, hO⟩ := (H0.out.keep CL.out.f).at_ hD
        have HR := hid_ hR
        have HO := hid_ hO
        have hi1 : (k : Int) < (n : Int) := by omega
        clear hR hO hD
        go_upto_region 10 with (first | (refine wpList_load_mid rfl 47 (.tmp 49) rfl b (off + k * 23) rfl (dmL D) _ HR.out Try.underlying47 rfl dm_size ?_) | (refine wpList_store_mid rfl 47 (.tmp 10) (.tmp 50) rfl wr.heap.size 0 (dmL D).toArray rfl rfl (dm_there wr) dm_size (dm_one D) ?_; obtain ⟨w1, hw1⟩ : ∃ w1, w1 = (wr.alloc (.cells dmZ 47)).setCells wr.heap.size 0 (dmL D) := ⟨_, rfl⟩; change wpList _ _ _ _ _ ((wr.alloc (.cells dmZ 47)).setCells wr.heap.size 0 (dmL D)); rw [← hw1]; have P1 : Hid (Blk w1 wr.heap.size 47 (dmL D).toArray ∧ Fr none_ wr w1) := hid_ (by rw [hw1]; exact dm_copy wr D); clear hw1))
        try go_frame
        replace CL := hid_ (CL.out.keep P1.out.2)
        have z0 : w1.cell? ⟨wr.heap.size, 0, none⟩ = some (.int .i64 D.v) := P1.out.1.cell' rfl
        have z1 : w1.cell? ⟨wr.heap.size, 1, none⟩ = some (.int .i64 D.n) := P1.out.1.cell' rfl
        have z2 : w1.cell? ⟨wr.heap.size, 2, none⟩ = some (.int .i64 D.a) := P1.out.1.cell' rfl
        obtain ⟨kk, nn, hMk, hk0, hk1, hnn⟩ := CL.out.st
        have HK := hid_ hMk
        have hbd := hMk.ck.bd
        clear hMk
        by_cases h8 : D.v = 8
        · have e8 : (D.v == 8) = true := by simpa using h8
          clear h8
          by_cases he : now = q
          · skip
            go_wp2_with fail
            refine (memBump_ok m kk (⟨s', p', (t' : Int), r, c, q⟩ : Lm) x now S nn _ HK.out hk0 (by omega)).mono ?_
            rintro e w2 ⟨⟨v, rfl⟩, hM2, hf2⟩
            have M2 := hid_ hM2
            have FM := hid_ hf2
            have R2 := hid_ (CL.out.rc.mset HK.out hf2)
            clear hM2 hf2
            have P2 := hid_ (show Blk w2 wr.heap.size 47 (dmL D).toArray from P1.out.1.fr FM.out (by
              obtain ⟨cs, hc⟩ := HK.out.ck.blkC
              obtain ⟨es, cl, hm⟩ := HK.out.ck.objM
              rintro (e | e | e)
              · exact Blk.ne_ P1.out.1 HK.out.b (by decide) e
              · exact Blk.ne_ P1.out.1 hc (by decide) e
              · have hb := P1.out.1
                unfold Blk at hb
                rw [e, hm] at hb
                cases hb))
            clear z0 z1 z2
            have r0 : w2.cell? ⟨w4.heap.size, 0, none⟩ = some (.int .i64 now) := R2.out.b.cell' rfl
            have r1 : w2.cell? ⟨w4.heap.size, 1, none⟩ = some (.int .i64 q) := R2.out.b.cell' rfl
            have r2 : w2.cell? ⟨w4.heap.size, 2, none⟩ = some (.slice Ad S.length cd) := R2.out.b.cell' rfl
            have z1 : w2.cell? ⟨wr.heap.size, 1, none⟩ = some (.int .i64 D.n) := P2.out.cell' rfl
            have z2 : w2.cell? ⟨wr.heap.size, 2, none⟩ = some (.int .i64 D.a) := P2.out.cell' rfl
            have HE := hid_ he
            have e1 : bumpN now q = now := by simp [bumpN, he]
            replace M2 : Hid (Mk w2 m (kk + 1) (⟨s', p', (t' : Int), r, c, q⟩ : Lm) x now S (nn + 1)) := hid_ (by have h := M2.out; rw [show ((⟨s', p', (t' : Int), r, c, q⟩ : Lm)).n = q from rfl, e1] at h; exact h)
            clear he e1
            go_wp2_with fail
            refine (rbump_end now q Ad cd S _ HE.out).mono ?_
            rintro e w3 ⟨rfl, hf3⟩
            have ho3 := own_none R2.out.o hf3
            clear r0 r1 r2 z1 z2
            have R3 := hid_ (R2.out.keep hf3)
            have r0 : w3.cell? ⟨w4.heap.size, 0, none⟩ = some (.int .i64 now) := R3.out.b.cell' rfl
            have r1 : w3.cell? ⟨w4.heap.size, 1, none⟩ = some (.int .i64 q) := R3.out.b.cell' rfl
            have r2 : w3.cell? ⟨w4.heap.size, 2, none⟩ = some (.slice Ad S.length cd) := R3.out.b.cell' rfl
            have y0 := R3.out.b.frozen 0
            have y1 := R3.out.b.frozen 1
            have y2 := R3.out.b.frozen 2
            have NX := hid_ (CL.out.next HK.out hk0 hk1 hnn (S' := S) (A' := Ad) (c' := cd) M2.out FM.out MS.out HBK.out ho3 hf3 rfl)
            clear hf3 ho3
            go_wp2_with fail
            go_roundw
            case rel => exact ⟨k + 1, now, S, Ad, cd, by omega, by go_num, NX.out⟩
            case measure => simp [intOf]; omega
          · skip
            go_wp2_with fail
            refine (memBump_ok m kk (⟨s', p', (t' : Int), r, c, q⟩ : Lm) x now S nn _ HK.out hk0 (by omega)).mono ?_
            rintro e w2 ⟨⟨v, rfl⟩, hM2, hf2⟩
            have M2 := hid_ hM2
            have FM := hid_ hf2
            have R2 := hid_ (CL.out.rc.mset HK.out hf2)
            clear hM2 hf2
            have P2 := hid_ (show Blk w2 wr.heap.size 47 (dmL D).toArray from P1.out.1.fr FM.out (by
              obtain ⟨cs, hc⟩ := HK.out.ck.blkC
              obtain ⟨es, cl, hm⟩ := HK.out.ck.objM
              rintro (e | e | e)
              · exact Blk.ne_ P1.out.1 HK.out.b (by decide) e
              · exact Blk.ne_ P1.out.1 hc (by decide) e
              · have hb := P1.out.1
                unfold Blk at hb
                rw [e, hm] at hb
                cases hb))
            clear z0 z1 z2
            have r0 : w2.cell? ⟨w4.heap.size, 0, none⟩ = some (.int .i64 now) := R2.out.b.cell' rfl
            have r1 : w2.cell? ⟨w4.heap.size, 1, none⟩ = some (.int .i64 q) := R2.out.b.cell' rfl
            have r2 : w2.cell? ⟨w4.heap.size, 2, none⟩ = some (.slice Ad S.length cd) := R2.out.b.cell' rfl
            have z1 : w2.cell? ⟨wr.heap.size, 1, none⟩ = some (.int .i64 D.n) := P2.out.cell' rfl
            have z2 : w2.cell? ⟨wr.heap.size, 2, none⟩ = some (.int .i64 D.a) := P2.out.cell' rfl
            have HE := hid_ (show now < q ∧ 1 ≤ now by have h1 := hbd.2.2.1; have h2 : now ≤ q := hbd.2.2.2.1; omega)
            have e1 : bumpN now q = now + 1 := by simp [bumpN, he]
            replace M2 : Hid (Mk w2 m (kk + 1) (⟨s', p', (t' : Int), r, c, q⟩ : Lm) x (now + 1) S (nn + 1)) := hid_ (by have h := M2.out; rw [show ((⟨s', p', (t' : Int), r, c, q⟩ : Lm)).n = q from rfl, e1] at h; exact h)
            clear he e1
            go_wp2_with fail
            refine (rbump_ok now q Ad cd S _ HE.out.1 HE.out.2 a12).mono ?_
            rintro e w3 ⟨rfl, hf3⟩
            have ho3 := own_none R2.out.o hf3
            clear r0 r1 r2 z1 z2
            have R3 := hid_ (R2.out.keep hf3)
            have r0 : w3.cell? ⟨w4.heap.size, 0, none⟩ = some (.int .i64 now) := R3.out.b.cell' rfl
            have r1 : w3.cell? ⟨w4.heap.size, 1, none⟩ = some (.int .i64 q) := R3.out.b.cell' rfl
            have r2 : w3.cell? ⟨w4.heap.size, 2, none⟩ = some (.slice Ad S.length cd) := R3.out.b.cell' rfl
            have y0 := R3.out.b.frozen 0
            have y1 := R3.out.b.frozen 1
            have y2 := R3.out.b.frozen 2
            have NX := hid_ (CL.out.next HK.out hk0 hk1 hnn (S' := S) (A' := Ad) (c' := cd) M2.out FM.out MS.out HBK.out ho3 hf3 rfl)
            clear hf3 ho3
            go_wp2_with fail
            go_roundw
            case rel => exact ⟨k + 1, now + 1, S, Ad, cd, by omega, by go_num, NX.out⟩
            case measure => simp [intOf]; omega
        have e8 : (D.v == 8) = false := by simpa using h8
        clear h8
        by_cases h9 : D.v = 9
        · have e9 : (D.v == 9) = true := by simpa using h9
          clear h9
          go_wp2_with fail
          refine (memEnter_ok m kk (⟨s', p', (t' : Int), r, c, q⟩ : Lm) x now S nn _ HK.out hk0 (by omega) (by omega) D.n D.a HO.out).mono ?_
          rintro e w2 ⟨⟨v, rfl⟩, hM2, hf2⟩
          have M2 := hid_ hM2
          have FM := hid_ hf2
          have R2 := hid_ (CL.out.rc.mset HK.out hf2)
          clear hM2 hf2
          have P2 := hid_ (show Blk w2 wr.heap.size 47 (dmL D).toArray from P1.out.1.fr FM.out (by
            obtain ⟨cs, hc⟩ := HK.out.ck.blkC
            obtain ⟨es, cl, hm⟩ := HK.out.ck.objM
            rintro (e | e | e)
            · exact Blk.ne_ P1.out.1 HK.out.b (by decide) e
            · exact Blk.ne_ P1.out.1 hc (by decide) e
            · have hb := P1.out.1
              unfold Blk at hb
              rw [e, hm] at hb
              cases hb))
          clear z0 z1 z2
          have r0 : w2.cell? ⟨w4.heap.size, 0, none⟩ = some (.int .i64 now) := R2.out.b.cell' rfl
          have r1 : w2.cell? ⟨w4.heap.size, 1, none⟩ = some (.int .i64 q) := R2.out.b.cell' rfl
          have r2 : w2.cell? ⟨w4.heap.size, 2, none⟩ = some (.slice Ad S.length cd) := R2.out.b.cell' rfl
          have z1 : w2.cell? ⟨wr.heap.size, 1, none⟩ = some (.int .i64 D.n) := P2.out.cell' rfl
          have z2 : w2.cell? ⟨wr.heap.size, 2, none⟩ = some (.int .i64 D.a) := P2.out.cell' rfl
          go_wp2_with fail
          refine (renter_any now q Ad cd S D.n D.a _ R2.out.o (by have := hbd.2.1; omega)).mono ?_
          rintro e w3 ⟨A', c', rfl, ho3, hf3⟩
          clear r0 r1 r2 z1 z2
          have R3 := hid_ (R2.out.keep hf3)
          have r0 : w3.cell? ⟨w4.heap.size, 0, none⟩ = some (.int .i64 now) := R3.out.b.cell' rfl
          have r1 : w3.cell? ⟨w4.heap.size, 1, none⟩ = some (.int .i64 q) := R3.out.b.cell' rfl
          have r2 : w3.cell? ⟨w4.heap.size, 2, none⟩ = some (.slice Ad S.length cd) := R3.out.b.cell' rfl
          have y0 := R3.out.b.frozen 0
          have y1 := R3.out.b.frozen 1
          have y2 := R3.out.b.frozen 2
          have NX := hid_ (CL.out.next HK.out hk0 hk1 hnn (S' := (enterS now S D.n D.a)) (A' := A') (c' := c') M2.out FM.out MS.out HBK.out ho3 hf3 (enterS_len _ _ _ _))
          clear hf3 ho3
          go_wp2_with fail
          go_roundw
          case rel => exact ⟨k + 1, now, (enterS now S D.n D.a), A', c', by omega, by go_num, NX.out⟩
          case measure => simp [intOf]; omega
        have e9 : (D.v == 9) = false := by simpa using h9
        clear h9
        by_cases h10 : D.v = 10
        · have e10 : (D.v == 10) = true := by simpa using h10
          clear h10
          go_wp2_with fail
          refine (memLeave_ok m kk (⟨s', p', (t' : Int), r, c, q⟩ : Lm) x now S nn _ HK.out hk0 (by omega) D.n).mono ?_
          rintro e w2 ⟨⟨v, rfl⟩, hM2, hf2⟩
          have M2 := hid_ hM2
          have FM := hid_ hf2
          have R2 := hid_ (CL.out.rc.mset HK.out hf2)
          clear hM2 hf2
          have P2 := hid_ (show Blk w2 wr.heap.size 47 (dmL D).toArray from P1.out.1.fr FM.out (by
            obtain ⟨cs, hc⟩ := HK.out.ck.blkC
            obtain ⟨es, cl, hm⟩ := HK.out.ck.objM
            rintro (e | e | e)
            · exact Blk.ne_ P1.out.1 HK.out.b (by decide) e
            · exact Blk.ne_ P1.out.1 hc (by decide) e
            · have hb := P1.out.1
              unfold Blk at hb
              rw [e, hm] at hb
              cases hb))
          clear z0 z1 z2
          have r0 : w2.cell? ⟨w4.heap.size, 0, none⟩ = some (.int .i64 now) := R2.out.b.cell' rfl
          have r1 : w2.cell? ⟨w4.heap.size, 1, none⟩ = some (.int .i64 q) := R2.out.b.cell' rfl
          have r2 : w2.cell? ⟨w4.heap.size, 2, none⟩ = some (.slice Ad S.length cd) := R2.out.b.cell' rfl
          have z1 : w2.cell? ⟨wr.heap.size, 1, none⟩ = some (.int .i64 D.n) := P2.out.cell' rfl
          have z2 : w2.cell? ⟨wr.heap.size, 2, none⟩ = some (.int .i64 D.a) := P2.out.cell' rfl
          go_wp2_with fail
          refine (rleave_any now q Ad cd S D.n _ R2.out.o (by have := hbd.2.1; omega) (fun y hy => (hbd.2.2.2.2.2 y hy).1)).mono ?_
          rintro e w3 ⟨A', c', rfl, ho3, hf3⟩
          clear r0 r1 r2 z1 z2
          have R3 := hid_ (R2.out.keep hf3)
          have r0 : w3.cell? ⟨w4.heap.size, 0, none⟩ = some (.int .i64 now) := R3.out.b.cell' rfl
          have r1 : w3.cell? ⟨w4.heap.size, 1, none⟩ = some (.int .i64 q) := R3.out.b.cell' rfl
          have r2 : w3.cell? ⟨w4.heap.size, 2, none⟩ = some (.slice Ad S.length cd) := R3.out.b.cell' rfl
          have y0 := R3.out.b.frozen 0
          have y1 := R3.out.b.frozen 1
          have y2 := R3.out.b.frozen 2
          have NX := hid_ (CL.out.next HK.out hk0 hk1 hnn (S' := (leaveS S D.n)) (A' := A') (c' := c') M2.out FM.out MS.out HBK.out ho3 hf3 (leaveS_len _ _))
          clear hf3 ho3
          go_wp2_with fail
          go_roundw
          case rel => exact ⟨k + 1, now, (leaveS S D.n), A', c', by omega, by go_num, NX.out⟩
          case measure => simp [intOf]; omega
        have e10 : (D.v == 10) = false := by simpa using h10
        clear h10
        go_wp2_with fail
        go_roundw
        case rel => exact ⟨k + 1, now, S, Ad, cd, by omega, by go_num, CL.out.skip_⟩
        case measure => simp [intOf]; omega
      · obtain rfl : k = n := by omega
        obtain ⟨kk, nn, hMk, hk0, hk1, hnn⟩ := CL.out.st
        have HK := hid_ hMk
        clear hMk
        have r2 : wr.cell? ⟨w4.heap.size, 2, none⟩ = some (.slice Ad S.length cd) := CL.out.rc.b.cell' rfl
        have hS64 := HK.out.ck.bd.2.1
        go_wp2_with fail
        clear r2
        obtain ⟨wy, rfl⟩ : ∃ wx : World, wx = wr := ⟨_, rfl⟩
        go_loopw [97] (fun i wz => ∃ (j : Nat) (kj : Int), j ≤ S.length ∧ i = .int .i64 j ∧ Mk wz m kj (⟨s', p', (t' : Int), r, c, q⟩ : Lm) x now S nn ∧ 0 ≤ kj ∧ kj ≤ 60 + (j : Int) ∧ Fr (mset m x) wy wz) (fun i _ => S.length - (intOf i).toNat)
        case atStart => exact ⟨0, kk, Nat.zero_le _, rfl, HK.out, hk0, by omega, Fr.refl _ _⟩
        case round =>
          obtain ⟨j, kj, hj, rfl, hMj, h0j, h1j, hfj⟩ := hrel
          have MJ := hid_ hMj
          have FJ := hid_ hfj
          have RJ := hid_ (CL.out.rc.mset HK.out hfj)
          clear hMj hfj
          have hj0 : (0 : Int) ≤ (j : Int) := Int.natCast_nonneg _
          by_cases hlt2 : j < S.length
          · obtain ⟨y, hy⟩ : ∃ y, S[j]? = some y := ⟨_, List.getElem?_eq_getElem hlt2⟩
            have HY := hid_ hy
            obtain ⟨g, hAd, hg, hc⟩ := sown_cell RJ.out.o hy
            subst hAd
            have hj1 : (j : Int) < (S.length : Int) := by omega
            clear hy
            go_wp2_with fail
            refine (memAt_ok m kj (⟨s', p', (t' : Int), r, c, q⟩ : Lm) x now S nn _ MJ.out h0j (by omega) HY.out).mono ?_
            rintro e w6 ⟨rfl, hM6, hf6⟩
            have M6 := hid_ hM6
            have F6 := hid_ (FJ.out.trans hf6 (fun _ _ => id) (fun _ _ => id))
            clear hM6 hf6 hc
            by_cases hp : 0 < y
            · have dp : decide (0 < y) = true := by simpa using hp
              clear hp
              rw [dp]
              go_wp2_with fail
              go_roundw
              case rel => exact ⟨j + 1, kj + 1, by omega, by go_num, M6.out, by omega, by omega, F6.out⟩
              case measure => simp [intOf]; omega
            · have dp : decide (0 < y) = false := by simpa using hp
              clear hp
              rw [dp]
              go_wp2_with fail
              go_roundw
              case rel => exact ⟨j + 1, kj + 1, by omega, by go_num, M6.out, by omega, by omega, F6.out⟩
              case measure => simp [intOf]; omega
          · obtain rfl : j = S.length := by omega
            go_upto_region 28 with fail
            have r0 : wr.cell? ⟨w4.heap.size, 0, none⟩ = some (.int .i64 now) := RJ.out.b.cell' rfl
            have nb : ¬ mset m x w4.heap.size := by
              obtain ⟨cs, hc⟩ := MJ.out.ck.blkC
              obtain ⟨es, cl, hm⟩ := MJ.out.ck.objM
              rintro (e | e | e)
              · exact Blk.ne_ RJ.out.b MJ.out.b (by decide) e
              · exact Blk.ne_ RJ.out.b hc (by decide) e
              · have hb := RJ.out.b
                unfold Blk at hb
                rw [e, hm] at hb
                cases hb
            have hS1 : (fun w' : World => Fr (mset m x) wr w') wr.drew := (Fr.refl _ wr).drew
            refine wp_region_U (m := 9) (S := fun w' : World => Fr (mset m x) wr w') (by kernel_rfl) ?_
            refine wpAnyU_take2 (i := 0) (v := _) rfl (by kernel_rfl) (by kernel_rfl) (by kernel_rfl) (by kernel_rfl) (fun _ _ _ h => h) (.inl ⟨by kernel_rfl, fun w' hS => by go_simp; rfl⟩) hS1 ?_
            refine wpAnyU_take2 (i := 2) (v := _) rfl (by kernel_rfl) (by kernel_rfl) (by kernel_rfl) (by kernel_rfl) (fun _ _ _ h => h) (.inl ⟨by kernel_rfl, fun w' hS => by go_simp; rfl⟩) hS1 ?_
            refine wpAnyU_take2 (i := 3) (v := _) rfl (by kernel_rfl) (by kernel_rfl) (by kernel_rfl) (by kernel_rfl) (fun _ _ _ h => h) (.inl ⟨by kernel_rfl, fun w' hS => by have s_ := cellFrS r0 hS nb; go_simp; rfl⟩) hS1 ?_
            refine wpAnyU_oneW (i := 1) rfl (by kernel_rfl) (by kernel_rfl) ?_
            go_simp
            refine (memNow_ok m kj (⟨s', p', (t' : Int), r, c, q⟩ : Lm) x now S nn _ (MJ.out.keep (Fr.refl none_ wr).drew) h0j (by omega)).mono ?_
            rintro e w6 ⟨rfl, hM6, hf6⟩
            have fS : Fr (mset m x) wr w6 := (Fr.refl (mset m x) wr).drew.trans hf6 (fun _ _ => id) (fun _ _ => id)
            refine ⟨fS, ?_⟩
            clear hM6 hf6 hS1
            refine wpAnyU_take2 (i := 4) (v := _) rfl (by kernel_rfl) (by kernel_rfl) (by kernel_rfl) (by kernel_rfl) (fun _ _ _ h => h) (.inl ⟨by kernel_rfl, fun w' hS => by go_simp; rfl⟩) fS ?_
            refine wpAnyU_take2 (i := 5) (v := _) rfl (by kernel_rfl) (by kernel_rfl) (by kernel_rfl) (by kernel_rfl) (fun _ _ _ h => h) (.inl ⟨by kernel_rfl, fun w' hS => by go_simp; rfl⟩) fS ?_
            refine wpAnyU_oneW (i := 6) rfl (by kernel_rfl) (by kernel_rfl) ?_
            go_simp
            refine (awake9 _).mono ?_
            rintro e w7 ⟨rfl, hf7⟩
            have fS7 := fS.then_none hf7
            refine ⟨fS7, ?_⟩
            clear hf7
            refine wpAnyU_oneW (i := 7) rfl (by kernel_rfl) (by kernel_rfl) ?_
            go_simp
            refine wpAnyU_oneW (i := 8) rfl (by kernel_rfl) (by kernel_rfl) ?_
            go_simp
            refine wpAnyU_done (by kernel_rfl) ?_ _
            go_wp2_with fail
            go_ret
            exact ⟨rfl, (CL.out.f.then_mset FJ.out MS.out.1 MS.out.2.1 MS.out.2.2).then_mset fS7 MS.out.1 MS.out.2.1 MS.out.2.2⟩
theorem clock9_walk_i {H : Type} {enc : TypeId × Value → H} (s p t r c q : Int) (A : Option Addr) (n cap : Nat) (hc : n ≤ cap) (hm : cap ≤ maxLen) (w : World) (h : Do9At enc w A n) :
    Calls Try.prog 3 #[.agg #[.int .i64 s, .int .i64 p, .int .i64 t, .int .i64 r, .int .i64 c, .int .i64 q], .slice A n cap] w fun e w' => e = .returned (.bool true) ∧ Fr none_ w w' := by
  obtain ⟨L, hL⟩ := dms_of h
  exact clock9_walk s p t r c q A n cap L w hL (by omega)
end Go.Proofs.Ytobmkolgjdgeiaa

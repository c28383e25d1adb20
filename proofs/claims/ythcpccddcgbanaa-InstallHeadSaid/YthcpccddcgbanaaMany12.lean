/- Several installers on one memory; of those of one page from one head one is done at most. -/
import Derived.Test.YthcpccddcgbanaaRuns12
import Derived.Test.YthcpccddcgbanaaBegJ12
namespace Go.Proofs.Ythcpccddcgbanaa
open Go.RowKit
set_option maxRecDepth 100000
set_option linter.unusedVariables false

/-- One of several installers. -/
structure In1 where
  i : Nat
  B : Nat
  D : Dt
  a : Ia
  J : Jd
  q : Jl
structure InOk (W w : World) (cab : Nat) (z : In1) : Prop where
  I : Inst w z.B z.i z.D z.a
  d : DOk z.D
  j : JobAt W w z.J z.q
  mv : z.a.mv = jobF z.q.jb z.q.cb
  nw : z.D.news = z.J.news
  zJ : RowsOk z.J.head ∧ ∀ R ∈ z.J.bases, RowsOk R
  off : ¬ foot z.i z.a cab
  hWB : W.heap.size ≤ z.B
  hB : z.B ≤ w.heap.size
  qc : z.q.cab = cab ∧ z.q.cao = 0
/-- The memory, the calls' number and installers whose blocks are apart. -/
structure Many (W w : World) (m : Nat) (k : Int) (l : Lm) (x : St) (cab : Nat) (c0 : Int) (L : List In1) : Prop where
  M : Mm w m k l x
  k0 : 0 ≤ k
  k1 : k ≤ 100000
  hW : ∀ b, mall m x b → W.heap.size ≤ b
  cc : w.cell? ⟨cab, 0, none⟩ = some (.int .i64 c0)
  cb : ∃ cs, Blk w cab 3 cs
  e : ∀ z ∈ L, InOk W w cab z
  dis : ∀ (j1 j2 : Nat) (z1 z2 : In1), L[j1]? = some z1 → L[j2]? = some z2 → j1 ≠ j2 → ∀ g, foot z1.i z1.a g → ¬ foot z2.i z2.a g
theorem InOk.keep {W w w' : World} {cab : Nat} {z : In1} (h : InOk W w cab z) (hf : Fr none_ w w') : InOk W w' cab z :=
  ⟨h.I.keep hf, h.d, h.j.keep hf, h.mv, h.nw, h.zJ, h.off, h.hWB, Nat.le_trans h.hB hf.size, h.qc⟩
theorem Many.keep {W w w' : World} {m : Nat} {k : Int} {l : Lm} {x : St} {cab : Nat} {c0 : Int} {L : List In1} (h : Many W w m k l x cab c0 L) (hf : Fr none_ w w') : Many W w' m k l x cab c0 L :=
  ⟨h.M.keep hf, h.k0, h.k1, h.hW, cellFr h.cc hf, h.cb.elim fun cs hb => ⟨cs, hb.fr hf id⟩, fun z hz => (h.e z hz).keep hf, h.dis⟩
theorem Many.env {W w : World} {m : Nat} {k : Int} {l : Lm} {x : St} {cab : Nat} {c0 : Int} {L : List In1} (h : Many W w m k l x cab c0 L) {z : In1} (hz : z ∈ L) : Env W w m k l x z.B z.i z.D z.a z.J z.q c0 := by
  have e := h.e z hz
  refine ⟨e.I, h.M, h.k0, h.k1, e.d, e.j, e.mv, e.nw, e.zJ, ?_, ?_, ?_, h.hW, e.hWB, e.hB⟩
  · rw [e.qc.1, e.qc.2]; exact h.cc
  · rw [e.qc.1]; exact h.cb
  · rw [e.qc.1]; exact e.off
/-- Another installer, where one did an access. -/
theorem Env.other {W w w' : World} {m : Nat} {k : Int} {l : Lm} {x : St} {B i : Nat} {D : Dt} {a : Ia} {J : Jd} {q : Jl} {c0 : Int} (h : Env W w m k l x B i D a J q c0) {B2 i2 : Nat} {D2 : Dt} {a2 : Ia} (h2 : Inst w B2 i2 D2 a2) (dis : ∀ g, foot i a g → ¬ foot i2 a2 g) (off : ¬ foot i2 a2 q.cab) (hf : Fr (mfc m x i a q.cab) w w') : Inst w' B2 i2 D2 a2 := by
  obtain ⟨cs, hcb⟩ := h.cb
  refine h2.fr hf (fun g hg hb => ?_) (fun g t cs' hb ht hs => ?_)
  · rcases hb with hb | hb | hb
    · obtain ⟨t, cs, hbb, ht⟩ := h2.foot_blk hg
      refine h.M.mall_ty hbb ?_ hb
      rcases ht with rfl | rfl | rfl | rfl <;> decide
    · exact dis g hb hg
    · exact off (by rw [← show g = q.cab from hb]; exact hg)
  · rcases hs with hs | hs | hs
    · refine h.M.mall_ty hb ?_ hs
      rcases ht with rfl | rfl | rfl <;> decide
    · obtain ⟨t', cs2, hb', ht'⟩ := h.I.foot_blk hs
      obtain ⟨rfl, _⟩ := hb.uniq hb'
      rcases ht with rfl | rfl | rfl <;> rcases ht' with h | h | h | h <;> revert h <;> decide
    · have e : g = q.cab := hs
      subst e
      obtain ⟨rfl, _⟩ := hb.uniq hcb
      rcases ht with h | h | h <;> revert h <;> decide
theorem mem_of_set {α : Type} {L : List α} {j : Nat} {a b : α} (h : b ∈ L.set j a) : b = a ∨ ∃ i, i ≠ j ∧ L[i]? = some b := by
  obtain ⟨i, hi⟩ := List.mem_iff_getElem?.1 h
  rcases Nat.decEq i j with hij | hij
  · rw [List.getElem?_set_ne (fun e => hij e.symm)] at hi
    exact .inr ⟨i, hij, hi⟩
  · subst hij
    rw [List.getElem?_set] at hi
    simp only [if_true] at hi
    split at hi
    · exact .inl (Option.some.inj hi).symm
    · cases hi
/-- One of them went on. -/
theorem Many.upd {W w w' : World} {m : Nat} {k k' : Int} {l : Lm} {x x' : St} {cab : Nat} {c0 c' : Int} {L : List In1} (h : Many W w m k l x cab c0 L) {j : Nat} {z : In1} (hz : L[j]? = some z) {D' : Dt} {a' : Ia} (he : Env W w' m k' l x' z.B z.i D' a' z.J z.q c') (hf : Fr (mfc m x z.i z.a z.q.cab) w w') (hfl : FootLe z.i z.a a' w) : Many W w' m k' l x' cab c' (L.set j { z with D := D', a := a' }) := by
  have hzm := List.mem_of_getElem? hz
  have ez := h.e z hzm
  have en := h.env hzm
  have hjl := (List.getElem?_eq_some_iff.1 hz).1
  have hfoot : ∀ (i : Nat) (z2 : In1), i ≠ j → L[i]? = some z2 → (∀ g, foot z.i a' g → ¬ foot z2.i z2.a g) := fun i z2 hij h2 g hg hg2 => by
    rcases hfl g hg with e | e
    · exact h.dis j i z z2 hz h2 (Ne.symm hij) g e hg2
    · have := (h.e z2 (List.mem_of_getElem? h2)).I.foot_lt hg2
      omega
  refine ⟨he.M, he.k0, he.k1, he.hW, ?_, ?_, fun z2 h2 => ?_, fun j1 j2 z1 z2 h1 h2 hne g hg hg2 => ?_⟩
  · have := he.cc; rw [ez.qc.1, ez.qc.2] at this; exact this
  · have := he.cb; rw [ez.qc.1] at this; exact this
  · rcases mem_of_set h2 with rfl | ⟨i, hij, hi⟩
    · exact ⟨he.I, he.d, he.j, he.mv, he.nw, he.zJ, by have := he.off; rw [ez.qc.1] at this; exact this, he.hWB, he.hB, ez.qc⟩
    · have e2 := h.e z2 (List.mem_of_getElem? hi)
      exact ⟨en.other e2.I (h.dis j i z z2 hz hi (Ne.symm hij)) (by rw [ez.qc.1]; exact e2.off) hf, e2.d, en.keepJob e2.j hf, e2.mv, e2.nw, e2.zJ, e2.off, e2.hWB, Nat.le_trans e2.hB hf.size, e2.qc⟩
  · have get : ∀ (i : Nat) (y : In1), (L.set j { z with D := D', a := a' })[i]? = some y → (i = j ∧ y = { z with D := D', a := a' }) ∨ (i ≠ j ∧ L[i]? = some y) := fun i y hy => by
      rcases Nat.decEq i j with hij | hij
      · rw [List.getElem?_set_ne (fun e => hij e.symm)] at hy
        exact .inr ⟨hij, hy⟩
      · subst hij
        rw [List.getElem?_set_self hjl] at hy
        exact .inl ⟨rfl, (Option.some.inj hy).symm⟩
    rcases get j1 z1 h1 with ⟨rfl, rfl⟩ | ⟨n1, g1⟩
    · rcases get j2 z2 h2 with ⟨rfl, rfl⟩ | ⟨n2, g2⟩
      · exact hne rfl
      · exact hfoot j2 z2 n2 g2 g hg hg2
    · rcases get j2 z2 h2 with ⟨rfl, rfl⟩ | ⟨n2, g2⟩
      · exact hfoot j1 z1 n1 g1 g hg2 hg
      · exact h.dis j1 j2 z1 z2 g1 g2 hne g hg hg2
/-- One more of them. -/
theorem Many.add {W w w' : World} {m : Nat} {k : Int} {l : Lm} {x : St} {cab : Nat} {c0 c' : Int} {L : List In1} (h : Many W w m k l x cab c0 L) {z : In1} (hz : InOk W w' cab z) (hf : Fr (only cab) w w') (hcc : w'.cell? ⟨cab, 0, none⟩ = some (.int .i64 c')) (hcb : ∃ cs, Blk w' cab 3 cs) (hnew : ∀ g, foot z.i z.a g → w.heap.size ≤ g) (hca : W.heap.size ≤ cab) : Many W w' m k l x cab c' (L ++ [z]) := by
  obtain ⟨cs, hb⟩ := h.cb
  have hM' : Mm w' m k l x := h.M.ty hf (fun b e => by rw [show b = cab from e]; exact ⟨_, cs, hb, by decide⟩)
  have hold : ∀ y ∈ L, InOk W w' cab y := fun y hy => by
    have e := h.e y hy
    exact ⟨e.I.offcab hf hb e.off, e.d, e.j.fr hf (fun b e' => by rw [show b = cab from e']; exact hca) (fun b t cs' e' hb' => by
      have e2 : b = cab := e'
      subst e2
      obtain ⟨rfl, _⟩ := hb'.uniq hb
      decide), e.mv, e.nw, e.zJ, e.off, e.hWB, Nat.le_trans e.hB hf.size, e.qc⟩
  have get : ∀ (i : Nat) (y : In1), (L ++ [z])[i]? = some y → (L[i]? = some y ∧ i < L.length) ∨ (y = z ∧ i = L.length) := fun i y hy => by
    rcases Nat.lt_or_ge i L.length with h1 | h1
    · rw [List.getElem?_append_left h1] at hy
      exact .inl ⟨hy, h1⟩
    · rw [List.getElem?_append_right h1] at hy
      rcases Nat.eq_zero_or_pos (i - L.length) with h2 | h2
      · rw [h2] at hy
        exact .inr ⟨(by simpa using hy.symm), by omega⟩
      · rw [List.getElem?_eq_none (by simp; omega)] at hy
        cases hy
  refine ⟨hM', h.k0, h.k1, h.hW, hcc, hcb, fun y hy => ?_, fun j1 j2 z1 z2 h1 h2 hne g hg hg2 => ?_⟩
  · rcases List.mem_append.1 hy with hy | hy
    · exact hold y hy
    · obtain rfl : y = z := by simpa using hy
      exact hz
  · rcases get j1 z1 h1 with ⟨g1, l1⟩ | ⟨rfl, l1⟩
    · rcases get j2 z2 h2 with ⟨g2, l2⟩ | ⟨rfl, l2⟩
      · exact h.dis j1 j2 z1 z2 g1 g2 hne g hg hg2
      · have := (h.e z1 (List.mem_of_getElem? g1)).I.foot_lt hg
        have := hnew g hg2
        omega
    · rcases get j2 z2 h2 with ⟨g2, l2⟩ | ⟨rfl, l2⟩
      · have := (h.e z2 (List.mem_of_getElem? g2)).I.foot_lt hg2
        have := hnew g hg
        omega
      · omega

/-! ### One is done at most -/
structure PF (x : St) (L : List Dt) : Prop where
  nf : ∀ D ∈ L, NotFirst D ∧ DOk D
  x0 : ∃ h g, X0 x h g ∧ (h = 1 ∧ g = 1 → ∀ D ∈ L, D.done = false)
  one : ∀ (i j : Nat) (Di Dj : Dt), L[i]? = some Di → L[j]? = some Dj → Di.done = true → Dj.done = true → i = j
theorem get_set {α : Type} {L : List α} {j : Nat} {a : α} (hj : j < L.length) {i : Nat} {y : α} (hy : (L.set j a)[i]? = some y) : (i = j ∧ y = a) ∨ (i ≠ j ∧ L[i]? = some y) := by
  rcases Nat.decEq i j with hij | hij
  · rw [List.getElem?_set_ne (fun e => hij e.symm)] at hy
    exact .inr ⟨hij, hy⟩
  · subst hij
    rw [List.getElem?_set_self hj] at hy
    exact .inl ⟨rfl, (Option.some.inj hy).symm⟩
theorem PF.step {n : Int} {J : Jd} {D D' : Dt} {x x' : St} {L : List Dt} (h : PF x L) {j : Nat} (hj : L[j]? = some D) (hs : StepR n J D x D' x') : PF x' (L.set j D') := by
  have hm := List.mem_of_getElem? hj
  have hjl := (List.getElem?_eq_some_iff.1 hj).1
  obtain ⟨hN, hD⟩ := h.nf D hm
  obtain ⟨hh, gg, hX, hd⟩ := h.x0
  obtain ⟨hN', h', g', hX', hc⟩ := first_step hD hN hX hs
  refine ⟨fun E hE => ?_, ⟨h', g', hX', fun e E hE => ?_⟩, fun i1 i2 D1 D2 h1 h2 d1 d2 => ?_⟩
  · rcases mem_of_set hE with rfl | ⟨i, _, hi⟩
    · exact ⟨hN', hD.step hs⟩
    · exact h.nf E (List.mem_of_getElem? hi)
  · rcases hc with ⟨rfl, rfl, hdn⟩ | ⟨_, _, hne⟩
    · rcases mem_of_set hE with rfl | ⟨i, _, hi⟩
      · rw [hdn]; exact hd e D hm
      · exact hd e E (List.mem_of_getElem? hi)
    · exact absurd e.1 hne
  · rcases hc with ⟨rfl, rfl, hdn⟩ | ⟨rfl, rfl, hne⟩
    · have back : ∀ (i : Nat) (E : Dt), (L.set j D')[i]? = some E → E.done = true → ∃ E', L[i]? = some E' ∧ E'.done = true := fun i E hE hdE => by
        rcases get_set hjl hE with ⟨rfl, rfl⟩ | ⟨_, hE⟩
        · exact ⟨D, hj, by rw [← hdn]; exact hdE⟩
        · exact ⟨E, hE, hdE⟩
      obtain ⟨E1, e1, f1⟩ := back i1 D1 h1 d1
      obtain ⟨E2, e2, f2⟩ := back i2 D2 h2 d2
      exact h.one i1 i2 E1 E2 e1 e2 f1 f2
    · have only : ∀ (i : Nat) (E : Dt), (L.set j D')[i]? = some E → E.done = true → i = j := fun i E hE hdE => by
        rcases get_set hjl hE with ⟨rfl, _⟩ | ⟨_, hE⟩
        · rfl
        · have := hd ⟨rfl, rfl⟩ E (List.mem_of_getElem? hE)
          rw [this] at hdE
          cases hdE
      rw [only i1 D1 h1 d1, only i2 D2 h2 d2]
theorem set_set_self {α : Type} (L : List α) (j : Nat) (a b : α) : (L.set j a).set j b = L.set j b := by simp
theorem PF.steps {n : Int} {J : Jd} {z : Nat} {D D' : Dt} {x x' : St} (h : Steps n J z D x D' x') : ∀ {L : List Dt} {j : Nat}, PF x L → L[j]? = some D → PF x' (L.set j D') := by
  induction h with
  | none D x =>
    intro L j hp hj
    have : L.set j D = L := by
      apply List.ext_getElem?
      intro i
      rcases Nat.decEq i j with hij | hij
      · rw [List.getElem?_set_ne (fun e => hij e.symm)]
      · subst hij
        rw [List.getElem?_set_self (List.getElem?_eq_some_iff.1 hj).1, hj]
    rw [this]
    exact hp
  | one h hs h1 ih =>
    intro L j hp hj
    have h2 := ih hp hj
    have := h2.step (j := j) (by rw [List.getElem?_set_self (List.getElem?_eq_some_iff.1 hj).1]) h1
    rwa [set_set_self] at this
theorem PF.add {x : St} {L : List Dt} (h : PF x L) {D : Dt} (hN : NotFirst D) (hD : DOk D) (hd : D.done = false) : PF x (L ++ [D]) := by
  obtain ⟨hh, gg, hX, hdn⟩ := h.x0
  have get : ∀ (i : Nat) (E : Dt), (L ++ [D])[i]? = some E → E.done = true → L[i]? = some E := fun i E hE hdE => by
    rcases Nat.lt_or_ge i L.length with h1 | h1
    · rw [List.getElem?_append_left h1] at hE
      exact hE
    · rw [List.getElem?_append_right h1] at hE
      rcases Nat.eq_zero_or_pos (i - L.length) with h2 | h2
      · rw [h2] at hE
        obtain rfl : D = E := by simpa using hE
        rw [hd] at hdE
        cases hdE
      · rw [List.getElem?_eq_none (by simp; omega)] at hE
        cases hE
  refine ⟨fun E hE => ?_, ⟨hh, gg, hX, fun e E hE => ?_⟩, fun i1 i2 D1 D2 h1 h2 d1 d2 => h.one i1 i2 D1 D2 (get _ _ h1 d1) (get _ _ h2 d2) d1 d2⟩
  · rcases List.mem_append.1 hE with hE | hE
    · exact h.nf E hE
    · obtain rfl : E = D := by simpa using hE
      exact ⟨hN, hD⟩
  · rcases List.mem_append.1 hE with hE | hE
    · exact hdn e E hE
    · obtain rfl : E = D := by simpa using hE
      exact hd
end Go.Proofs.Ythcpccddcgbanaa

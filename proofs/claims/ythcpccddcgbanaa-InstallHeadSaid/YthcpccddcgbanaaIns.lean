/- An installer in memory: its data, where they lie, and what a step may turn. -/
import Derived.Test.YthcpccddcgbanaaMc9
namespace Go.Proofs.Ythcpccddcgbanaa
open Go.RowKit
set_option maxRecDepth 100000
set_option linter.unusedVariables false

/-- What an installer has, without where it lies. -/
structure Dt where
  page : Int
  os : Int
  og : Int
  news : Int
  stage : Int
  pages : List Int
  bases : List Rc
  head : Rc
  refs : List (Int × Int)
  at_ : Int
  done : Bool
  err : Int
/-- Where it lies. -/
structure Ia where
  mv : Value
  pv : Value
  bv : Value
  rv : Value
  Cs : List Cr
  hvr : Value
  hve : Value
  ev : Value
abbrev inA (D : Dt) (a : Ia) : Array Value := #[.int .i64 D.page, .int .i64 D.os, .int .i64 D.og, .int .i64 D.news, a.mv, .int .i64 D.stage, a.pv, a.bv, .int .i64 D.head.kind, .string D.head.low, .string D.head.high, .bool D.head.unb, .int .i64 D.head.right, a.hvr, a.hve, .string D.head.key, .string D.head.val, .int .i64 D.head.page, .int .i64 D.head.hpage, .int .i64 D.head.hleft, .string D.head.hkey, .int .i64 D.head.nslot, .int .i64 D.head.ngen, a.rv, .int .i64 D.at_, .bool D.done, a.ev]
abbrev intF (l : List Int) : List Value := l.map fun n => Value.int .i64 n
/-- An error by its code alone. -/
def Er (w : World) (v : Value) (c : Int) : Prop := v = errOf c ∨ ∃ p s, Ev w v p s c
theorem Er.shape {w : World} {v : Value} {c : Int} (h : Er w v c) : v = .nilIface ∨ ∃ t x, v = .iface t x := by
  rcases h with rfl | ⟨p, s, ⟨_, rfl⟩ | ⟨_, b, rfl, _⟩⟩
  · unfold errOf; split
    · exact .inl rfl
    · exact .inr ⟨_, _, rfl⟩
  · exact .inl rfl
  · exact .inr ⟨_, _, rfl⟩
theorem Er.keep {w w' : World} {v : Value} {c : Int} (h : Er w v c) (hf : Fr none_ w w') : Er w' v c := by
  rcases h with h | ⟨p, s, h⟩
  · exact .inl h
  · exact .inr ⟨p, s, h.keep hf⟩
theorem Er.fr {w w' : World} {v : Value} {c : Int} {S : Nat → Prop} (h : Er w v c) (hf : Fr S w w') (hS : ∀ b cs, Blk w b 122 cs → ¬ S b) : Er w' v c := by
  rcases h with h | ⟨p, s, h⟩
  · exact .inl h
  · exact .inr ⟨p, s, h.fr hf hS⟩
theorem Er.only {w w' : World} {v : Value} {c : Int} {g : Nat} {t : TypeId} {cs : Array Value} (h : Er w v c) (hf : Fr (only g) w w') (hg : Blk w g t cs) (hne : 122 ≠ t) : Er w' v c :=
  h.fr hf (fun b _ hb => only_ne (Blk.ne_ hb hg hne))
theorem Ev.er {w : World} {v : Value} {p : ByteArray} {s c : Int} (h : Ev w v p s c) : Er w v c := .inr ⟨p, s, h⟩
def RowsOk (R : Rc) : Prop := R.rows.length ≤ 1000 ∧ R.ents.length ≤ 1000
structure Inst (w : World) (B i : Nat) (D : Dt) (a : Ia) : Prop where
  b : Blk w i 92 (inA D a)
  p : w.ownsRow B 3 1 a.pv D.pages.length (intF D.pages)
  bs : w.ownsRow B 44 15 a.bv a.Cs.length (crFlat a.Cs)
  cs : a.Cs.map (·.R) = D.bases
  bo : ∀ C ∈ a.Cs, RecOwn w 0 C.R (.slice C.A C.R.rows.length C.c) (.slice C.B C.R.ents.length C.d)
  r : w.ownsRow B 34 2 a.rv D.refs.length (rf9Flat D.refs)
  h : RecOwn w 0 D.head a.hvr a.hve
  e : Er w a.ev D.err
  le : B ≤ i
  zb : ∀ R ∈ D.bases, RowsOk R
  zh : RowsOk D.head
  zp : D.pages.length ≤ 4 ∧ D.bases.length ≤ 4 ∧ D.refs.length ≤ 5
/-- The blocks of an installer that a step may turn. -/
def foot (i : Nat) (a : Ia) : Nat → Prop := fun k => k = i ∨ a.pv.ownBlock = some k ∨ a.bv.ownBlock = some k ∨ a.rv.ownBlock = some k
theorem own_blk {w : World} {base : Nat} {e : TypeId} {size n : Nat} {v : Value} {xs : List Value} (h : w.ownsRow base e size v n xs) {k : Nat} (hk : v.ownBlock = some k) : base ≤ k ∧ ∃ cs, Blk w k e cs := by
  rcases h.2 with ⟨rfl, rfl⟩ | ⟨g, cap, cur, rfl, hb, hh, hc, hm, hs, ht⟩
  · simp [Value.ownBlock] at hk
  · obtain rfl : g = k := by simpa [Value.ownBlock] using hk
    exact ⟨hb, cur, hh⟩
section
variable {w w' : World} {B i : Nat} {D : Dt} {a : Ia} {S : Nat → Prop}
theorem Inst.foot_le (h : Inst w B i D a) {k : Nat} (hk : foot i a k) : B ≤ k := by
  rcases hk with rfl | hk | hk | hk
  · exact h.le
  · exact (own_blk h.p hk).1
  · exact (own_blk h.bs hk).1
  · exact (own_blk h.r hk).1
/-- A block of the foot is one of four types. -/
theorem Inst.foot_blk (h : Inst w B i D a) {k : Nat} (hk : foot i a k) : ∃ t cs, Blk w k t cs ∧ (t = 92 ∨ t = 3 ∨ t = 44 ∨ t = 34) := by
  rcases hk with rfl | hk | hk | hk
  · exact ⟨_, _, h.b, .inl rfl⟩
  · obtain ⟨_, cs, hb⟩ := own_blk h.p hk
    exact ⟨_, cs, hb, .inr (.inl rfl)⟩
  · obtain ⟨_, cs, hb⟩ := own_blk h.bs hk
    exact ⟨_, cs, hb, .inr (.inr (.inl rfl))⟩
  · obtain ⟨_, cs, hb⟩ := own_blk h.r hk
    exact ⟨_, cs, hb, .inr (.inr (.inr rfl))⟩
theorem Inst.foot_lt (h : Inst w B i D a) {k : Nat} (hk : foot i a k) : k < w.heap.size := by
  obtain ⟨t, cs, hb, _⟩ := h.foot_blk hk
  exact hb.lt
/-- Kept where neither its own blocks nor rows, entries, faults are turned. -/
theorem Inst.fr (h : Inst w B i D a) (hf : Fr S w w') (h1 : ∀ k, foot i a k → ¬ S k) (h2 : ∀ k t cs, Blk w k t cs → (t = 97 ∨ t = 99 ∨ t = 122) → ¬ S k) : Inst w' B i D a := by
  have hrec : ∀ R vr ve, RecOwn w 0 R vr ve → RecOwn w' 0 R vr ve := fun R vr ve hR =>
    hR.fr hf (fun k hk => by obtain ⟨_, cs, hb⟩ := own_blk hR.r hk; exact h2 k _ cs hb (.inl rfl)) (fun k hk => by obtain ⟨_, cs, hb⟩ := own_blk hR.e hk; exact h2 k _ cs hb (.inr (.inl rfl)))
  exact ⟨h.b.fr hf (h1 i (.inl rfl)), own_fr h.p hf (fun k hk => h1 k (.inr (.inl hk))), own_fr h.bs hf (fun k hk => h1 k (.inr (.inr (.inl hk)))), h.cs,
    fun C hC => hrec _ _ _ (h.bo C hC), own_fr h.r hf (fun k hk => h1 k (.inr (.inr (.inr hk)))), hrec _ _ _ h.h, h.e.fr hf (fun b cs hb => h2 b _ cs hb (.inr (.inr rfl))), h.le, h.zb, h.zh, h.zp⟩
theorem Inst.keep (h : Inst w B i D a) (hf : Fr none_ w w') : Inst w' B i D a := h.fr hf (fun _ _ => id) (fun _ _ _ _ _ => id)
/-- .. where one block of another type is turned. -/
theorem Inst.beside (h : Inst w B i D a) {g : Nat} {t : TypeId} {cs : Array Value} (hf : Fr (only g) w w') (hg : Blk w g t cs) (hn : t ≠ 92 ∧ t ≠ 3 ∧ t ≠ 44 ∧ t ≠ 97 ∧ t ≠ 99 ∧ t ≠ 122) (hr : t = 34 → a.rv.ownBlock ≠ some g) : Inst w' B i D a := by
  refine h.fr hf (fun k hk => ?_) (fun k t' cs' hb ht => ?_)
  · refine only_ne ?_
    rintro rfl
    obtain ⟨t', cs', hb, ht⟩ := h.foot_blk hk
    obtain ⟨rfl, _⟩ := hb.uniq hg
    rcases ht with rfl | rfl | rfl | rfl
    · exact hn.1 rfl
    · exact hn.2.1 rfl
    · exact hn.2.2.1 rfl
    · rcases hk with rfl | hk | hk | hk
      · exact absurd (h.b.uniq hg).1 (by decide)
      · obtain ⟨_, cs2, hb2⟩ := own_blk h.p hk
        exact absurd (hb2.uniq hg).1 (by decide)
      · obtain ⟨_, cs2, hb2⟩ := own_blk h.bs hk
        exact absurd (hb2.uniq hg).1 (by decide)
      · exact hr rfl hk
  · refine only_ne ?_
    rintro rfl
    obtain ⟨rfl, _⟩ := hb.uniq hg
    rcases ht with rfl | rfl | rfl
    · exact hn.2.2.2.1 rfl
    · exact hn.2.2.2.2.1 rfl
    · exact hn.2.2.2.2.2 rfl
end
/-- A memory's blocks are of other types. -/
theorem Mm.mall_ty {w : World} {m : Nat} {k : Int} {l : Lm} {x : St} (h : Mm w m k l x) {b : Nat} {t : TypeId} {cs : Array Value} (hb : Blk w b t cs) (hn : t ≠ 85 ∧ t ≠ 113 ∧ t ≠ 115 ∧ t ≠ 110) : ¬ mall m x b := by
  obtain ⟨cs, hG, _⟩ := h.ar.hG
  obtain ⟨cap, cur, hT0, hH, _⟩ := id h.tb
  rintro (e | e | e | e | e)
  · exact Blk.ne_ hb h.b hn.1 e
  · exact Blk.ne_ hb hG hn.2.1 e
  · exact Blk.ne_ hb hH hn.2.2.1 e
  · exact Blk.ne_ hb h.ck.hC hn.2.2.2 e
  · exact h.ck.mne hb e.symm
theorem Inst.mall {w w' : World} {B i : Nat} {D : Dt} {a : Ia} {m : Nat} {k : Int} {l : Lm} {x : St} (h : Inst w B i D a) (hM : Mm w m k l x) (hf : Fr (mall m x) w w') : Inst w' B i D a := by
  refine h.fr hf (fun b hb => ?_) (fun b t cs hb ht => ?_)
  · obtain ⟨t, cs, hbb, ht⟩ := h.foot_blk hb
    refine hM.mall_ty hbb ?_
    rcases ht with rfl | rfl | rfl | rfl <;> decide
  · refine hM.mall_ty hb ?_
    rcases ht with rfl | rfl | rfl <;> decide
/-- A memory stands where one block of another type is turned. -/
theorem Mm.beside {w w' : World} {m : Nat} {k : Int} {l : Lm} {x : St} (h : Mm w m k l x) {g : Nat} {t : TypeId} {cs : Array Value} (hf : Fr (only g) w w') (hg : Blk w g t cs) (hn : t ≠ 85 ∧ t ≠ 113 ∧ t ≠ 115 ∧ t ≠ 110) (hn2 : t ≠ 104 ∧ t ≠ 107 ∧ t ≠ 97 ∧ t ≠ 99) : Mm w' m k l x := by
  obtain ⟨cs', hG, _⟩ := h.ar.hG
  obtain ⟨cap, cur, hT0, hH, _⟩ := id h.tb
  exact ⟨h.b.fr hf (only_ne (Blk.ne_ h.b hg hn.1.symm)), h.ar.beside hf hg hn2.2.2.1.symm hn2.2.2.2.symm (Blk.ne_ h.ar.hA hg hn2.1.symm) (Blk.ne_ hG hg hn.2.1.symm), h.tb.fr hf (only_ne (Blk.ne_ hT0 hg hn2.2.1.symm)) (only_ne (Blk.ne_ hH hg hn.2.2.1.symm)), h.ck.fr hf (only_ne (Blk.ne_ h.ck.hC hg hn.2.2.2.symm)) (only_ne (h.ck.mne hg))⟩
end Go.Proofs.Ythcpccddcgbanaa

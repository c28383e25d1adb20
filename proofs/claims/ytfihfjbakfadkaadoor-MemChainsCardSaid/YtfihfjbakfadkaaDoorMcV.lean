/- Texts of one proof, merged: Pl9, Cc9. -/
import Derived.Test.YtfihfjbakfadkaaDoorMcQ
import Derived.Test.YtfihfjbakfadkaaDoorMcT
import Derived.Test.YtfihfjbakfadkaaDoorMcU
namespace Go.Proofs.YtfihfjbakfadkaaDoor
open Go.RowKit
set_option maxRecDepth 100000
set_option linter.unusedVariables false

theorem find_uniq {L : List RaP} {s g : Int} {i j : Nat} (h : FindIs L s g i) (h' : FindIs L s g j) : i = j := by
  rcases h with ⟨a, p, e, hp, p1, p2, p3, hb⟩ | ⟨e, _⟩
  · rcases h' with ⟨b, q, e', hq, q1, q2, q3, hc⟩ | ⟨e', _⟩
    · obtain rfl : i = a := by omega
      obtain rfl : j = b := by omega
      rcases Nat.lt_trichotomy i j with hlt | heq | hgt
      · exact absurd ⟨p1, p2, p3⟩ (hc i p hlt hp)
      · exact heq
      · exact absurd ⟨q1, q2, q3⟩ (hb j q hgt hq)
    · omega
  · omega
theorem rload_det {slots : Int} {LP : List RaP} {s g : Int} {R : Rc} {A B : Option Addr} {c d : Nat} {k : Int} {R' : Rc} {A' B' : Option Addr} {c' d' : Nat} {k' : Int} (h : RLoadIs slots LP s g R A B c d k) (h' : RLoadIs slots LP s g R' A' B' c' d' k') : k = k' ∧ R = R' := by
  rcases h with ⟨a1, hR, _, _, _, _, hk⟩ | ⟨a1, a2, hR, _, _, _, _, hk⟩ | ⟨a1, i, p, a2, a3, a4, a5, a6, hR, _, _, _, _, hk⟩
  · rcases h' with ⟨b1, hR', _, _, _, _, hk'⟩ | ⟨b1, b2, hR', _, _, _, _, hk'⟩ | ⟨b1, j, q, b2, b3, b4, b5, b6, hR', _, _, _, _, hk'⟩
    · exact ⟨hk.trans hk'.symm, hR.trans hR'.symm⟩
    · exact absurd b1 a1
    · exact absurd b1 a1
  · rcases h' with ⟨b1, hR', _, _, _, _, hk'⟩ | ⟨b1, b2, hR', _, _, _, _, hk'⟩ | ⟨b1, j, q, b2, b3, b4, b5, b6, hR', _, _, _, _, hk'⟩
    · exact absurd a1 b1
    · exact ⟨hk.trans hk'.symm, hR.trans hR'.symm⟩
    · exact absurd ⟨b4, b5, b6⟩ (a2 j q b3)
  · rcases h' with ⟨b1, hR', _, _, _, _, hk'⟩ | ⟨b1, b2, hR', _, _, _, _, hk'⟩ | ⟨b1, j, q, b2, b3, b4, b5, b6, hR', _, _, _, _, hk'⟩
    · exact absurd a1 b1
    · exact absurd ⟨a4, a5, a6⟩ (b2 i p a3)
    · obtain rfl := find_uniq a2 b2
      rw [a3] at b3
      obtain rfl := Option.some.inj b3
      exact ⟨hk.trans hk'.symm, hR.trans hR'.symm⟩
section
variable {slots : Int} {LP : List RaP} {s0 g0 : Int} {cap : Nat}
theorem dpth_det {rs : List (Int × Int)} {s g : Int} (h : DPth slots LP s0 g0 rs s g) : ∀ {rs' : List (Int × Int)} {s' g' : Int}, DPth slots LP s0 g0 rs' s' g' → rs.length = rs'.length → rs = rs' ∧ s = s' ∧ g = g' := by
  induction h with
  | nil =>
    intro rs' s' g' h' hl
    cases h' with
    | nil => exact ⟨rfl, rfl, rfl⟩
    | snoc h hz hl' => simp at hl
  | snoc h hz hl ih =>
    intro rs' s' g' h' hlen
    cases h' with
    | nil => simp at hlen
    | snoc h' hz' hl' =>
      obtain ⟨e1, e2, e3⟩ := ih h' (by simpa using hlen)
      subst e1
      subst e2
      subst e3
      obtain ⟨_, e⟩ := rload_det hl hl'
      subst e
      exact ⟨rfl, rfl, rfl⟩
theorem dpth_pre {rs : List (Int × Int)} {s g : Int} (h : DPth slots LP s0 g0 rs s g) : ∀ (n : Nat), n < rs.length → ∃ (s' g' : Int) (R : Rc) (A B : Option Addr) (c d : Nat), DPth slots LP s0 g0 (rs.take n) s' g' ∧ ¬ (s' = 0 ∧ g' = 0) ∧ RLoadIs slots LP s' g' R A B c d 0 := by
  induction h with
  | nil => intro n hn; simp at hn
  | @snoc pre s g R A B c d h hz hl ih =>
    intro n hn
    rw [List.length_append] at hn
    simp only [List.length_cons, List.length_nil] at hn
    rcases Nat.lt_or_ge n pre.length with hlt | hge
    · obtain ⟨s', g', R', A', B', c', d', h1, h2, h3⟩ := ih n hlt
      refine ⟨s', g', R', A', B', c', d', ?_, h2, h3⟩
      rw [List.take_append_of_le_length (by omega)]
      exact h1
    · obtain rfl : n = pre.length := by omega
      refine ⟨s, g, R, A, B, c, d, ?_, hz, hl⟩
      rw [List.take_left]
      exact h
/-- How a path ends. -/
def DS (slots : Int) (cap : Nat) (LP : List RaP) (rs : List (Int × Int)) (s g K : Int) : Prop :=
  ((s = 0 ∧ g = 0) ∧ K = 0 ∧ rs.length ≤ cap) ∨ (¬ (s = 0 ∧ g = 0) ∧ rs.length = cap ∧ K = 10) ∨ (¬ (s = 0 ∧ g = 0) ∧ rs.length < cap ∧ K ≠ 0 ∧ ∃ (R : Rc) (A B : Option Addr) (c d : Nat), RLoadIs slots LP s g R A B c d K)
theorem DS.le {rs : List (Int × Int)} {s g K : Int} (h : DS slots cap LP rs s g K) : rs.length ≤ cap := by
  rcases h with ⟨_, _, h⟩ | ⟨_, h, _⟩ | ⟨_, h, _⟩ <;> omega
theorem ds_no {rs rs' : List (Int × Int)} {s g K s' g' K' : Int} (h : DPth slots LP s0 g0 rs s g) (hd : DS slots cap LP rs s g K) (h' : DPth slots LP s0 g0 rs' s' g') (hd' : DS slots cap LP rs' s' g' K') (hlt : rs.length < rs'.length) : False := by
  obtain ⟨s1, g1, R, A, B, c, d, h1, h2, h3⟩ := dpth_pre h' rs.length hlt
  obtain ⟨_, e2, e3⟩ := dpth_det h h1 (by rw [List.length_take]; omega)
  subst e2
  subst e3
  have hle := hd'.le
  rcases hd with ⟨hz, _⟩ | ⟨_, hc, _⟩ | ⟨_, _, hK, R2, A2, B2, c2, d2, hl⟩
  · exact h2 hz
  · omega
  · exact hK (rload_det hl h3).1
theorem ds_det {rs rs' : List (Int × Int)} {s g K s' g' K' : Int} (h : DPth slots LP s0 g0 rs s g) (hd : DS slots cap LP rs s g K) (h' : DPth slots LP s0 g0 rs' s' g') (hd' : DS slots cap LP rs' s' g' K') : rs = rs' ∧ K = K' := by
  rcases Nat.lt_trichotomy rs.length rs'.length with hlt | heq | hgt
  · exact (ds_no h hd h' hd' hlt).elim
  · obtain ⟨e1, e2, e3⟩ := dpth_det h h' heq
    subst e1
    subst e2
    subst e3
    refine ⟨rfl, ?_⟩
    rcases hd with ⟨hz, hk, _⟩ | ⟨hz, hc, hk⟩ | ⟨hz, hc, hK, R2, A2, B2, c2, d2, hl⟩
    · rcases hd' with ⟨hz', hk', _⟩ | ⟨hz', hc', hk'⟩ | ⟨hz', hc', hK', R2, A2, B2, c2, d2, hl'⟩
      · exact hk.trans hk'.symm
      · exact absurd hz hz'
      · exact absurd hz hz'
    · rcases hd' with ⟨hz', hk', _⟩ | ⟨hz', hc', hk'⟩ | ⟨hz', hc', hK', R2, A2, B2, c2, d2, hl'⟩
      · exact absurd hz' hz
      · exact hk.trans hk'.symm
      · omega
    · rcases hd' with ⟨hz', hk', _⟩ | ⟨hz', hc', hk'⟩ | ⟨hz', hc', hK', R3, A3, B3, c3, d3, hl'⟩
      · exact absurd hz' hz
      · omega
      · exact (rload_det hl hl').1
  · exact (ds_no h' hd' h hd hgt).elim
/-- What a chain answers. -/
def DRes (slots : Int) (cap : Nat) (LP : List RaP) (s0 g0 : Int) (out : List (Int × Int)) (K : Int) : Prop :=
  ∃ (rs : List (Int × Int)) (s g : Int), DPth slots LP s0 g0 rs s g ∧ DS slots cap LP rs s g K ∧ out = (if K = 0 then rs else [])
theorem dres_det {out out' : List (Int × Int)} {K K' : Int} (h : DRes slots cap LP s0 g0 out K) (h' : DRes slots cap LP s0 g0 out' K') : out = out' ∧ K = K' := by
  obtain ⟨rs, s, g, h1, h2, h3⟩ := h
  obtain ⟨rs', s', g', h1', h2', h3'⟩ := h'
  obtain ⟨e1, e2⟩ := ds_det h1 h2 h1' h2'
  subst e1
  subst e2
  exact ⟨h3.trans h3'.symm, rfl⟩
theorem DRes.le {out : List (Int × Int)} {K : Int} (h : DRes slots cap LP s0 g0 out K) : out.length ≤ cap := by
  obtain ⟨rs, s, g, h1, h2, rfl⟩ := h
  split
  · exact h2.le
  · exact Nat.zero_le _
/-- The document's Chain told so. -/
theorem dchain_res {w w' : World} {e : Ending} (h : DChain slots cap LP s0 g0 w e w') : ∃ (out : List (Int × Int)) (K : Int) (A : Option Addr) (c : Nat) (D : Option Addr) (d : Nat), DRes slots cap LP s0 g0 out K ∧ e = .returned (.tuple #[.slice A out.length c, .slice D out.length d, .int .i64 K]) ∧ Reads w' 2 D out.length (rpFlat out) ∧ Fr none_ w w' := by
  rcases h with ⟨rs, A, c, D, d, h1, h2, h3, h4, h5⟩ | ⟨rs, s, g, h1, h2, h3, h4, h5⟩ | ⟨rs, s, g, R, A, B, c, d, k, h1, h2, h3, h4, h5, h6, h7⟩
  · exact ⟨rs, 0, A, c, D, d, ⟨rs, 0, 0, h1, .inl ⟨⟨rfl, rfl⟩, rfl, h2⟩, rfl⟩, h3, h4, h5⟩
  · exact ⟨[], 10, none, 0, none, 0, ⟨rs, s, g, h1, .inr (.inl ⟨h3, h2, rfl⟩), rfl⟩, h4, Reads.nil_, h5⟩
  · exact ⟨[], k, none, 0, none, 0, ⟨rs, s, g, h1, .inr (.inr ⟨h3, h2, h5, R, A, B, c, d, h4⟩), by rw [if_neg h5]⟩, h6, Reads.nil_, h7⟩
/-- The memory's slots, as the document's arena has them. -/
structure Sim9 (slots : Int) (LP : List RaP) (ss : List Sl) : Prop where
  live : ∀ (j : Nat) (y : Sl), ss[j]? = some y → y.used = true → ∃ (A B : Option Addr) (c d : Nat), RLoadIs slots LP ((j : Int) + 1) y.gen y.R A B c d 0
  dead : ∀ (s g : Int), atC ss s g ≠ 0 → ∃ (R : Rc) (A B : Option Addr) (c d : Nat), RLoadIs slots LP s g R A B c d (atC ss s g)
theorem Sim9.path {ss : List Sl} (hs : Sim9 slots LP ss) {js : List Nat} {s g : Int} (h : Pth ss s0 g0 js s g) : DPth slots LP s0 g0 (js.map (refOf ss)) s g := by
  induction h with
  | nil => exact .nil
  | @snoc pre s g h j y h1 h2 h3 h4 ih =>
    obtain ⟨A, B, c, d, hl⟩ := hs.live j y h2 h3
    rw [← h1, h4] at hl
    rw [List.map_append]
    have e : [j].map (refOf ss) = [(s, g)] := by
      show [refOf ss j] = _
      unfold refOf
      rw [slotD h2, h1, h4]
    rw [e]
    exact .snoc ih (by omega) hl
/-- An error as a code: 0 is nil. -/
def HErr (w : World) (v : Value) (K : Int) : Prop := (K = 0 ∧ v = .nilIface) ∨ (K ≠ 0 ∧ ∃ E : Er, ErAt w E v ∧ E.first = K)
theorem HErr.keep {w w' : World} {v : Value} {K : Int} (h : HErr w v K) (hf : Fr none_ w w') : HErr w' v K := by
  rcases h with h | ⟨h, E, h1, h2⟩
  · exact .inl h
  · exact .inr ⟨h, E, h1.keep hf, h2⟩
/-- The memory's Chain told so. -/
theorem mchain_res {ss : List Sl} (hs : Sim9 slots LP ss) {w w' : World} {e : Ending} (h : ChainAny ss cap s0 g0 w e w') : ∃ (out : List (Int × Int)) (K : Int) (A : Option Addr) (c : Nat) (D : Option Addr) (d : Nat) (v : Value), DRes slots cap LP s0 g0 out K ∧ e = .returned (.tuple #[.slice A out.length c, .slice D out.length d, v]) ∧ Reads w' 2 D out.length (rpFlat out) ∧ HErr w' v K ∧ Fr none_ w w' := by
  rcases h with ⟨js, h1, h2, A, c, B, d, Cs, h3, h4, h5, h6, h7, h8⟩ | ⟨js, s, g, h1, h2, h3, h4, h5⟩ | ⟨js, s, g, b, h1, h2, h3, h4, h5, h6, h7⟩
  · have hl : (js.map (refOf ss)).length = js.length := List.length_map _
    refine ⟨js.map (refOf ss), 0, A, c, B, d, .nilIface, ⟨_, 0, 0, hs.path h1, .inl ⟨⟨rfl, rfl⟩, rfl, by rw [hl]; exact h2⟩, rfl⟩, by rw [hl]; exact h3, ?_, .inl ⟨rfl, rfl⟩, h8⟩
    rw [hl]
    exact Reads.of_own h6
  · exact ⟨[], 10, none, 0, none, 0, errV 10, ⟨_, s, g, hs.path h1, .inr (.inl ⟨h3, by rw [List.length_map]; exact h2, rfl⟩), rfl⟩, h4, Reads.nil_, .inr ⟨by decide, .code 10, rfl, rfl⟩, h5⟩
  · obtain ⟨R, A, B, c, d, hl⟩ := hs.dead s g h4
    exact ⟨[], atC ss s g, none, 0, none, 0, _, ⟨_, s, g, hs.path h1, .inr (.inr ⟨h3, by rw [List.length_map]; exact h2, h4, R, A, B, c, d, hl⟩), by rw [if_neg h4]⟩, h5, Reads.nil_, .inr ⟨h4, .at_ sArena9 s (.code (atC ss s g)), ⟨b, _, rfl, h6, rfl⟩, rfl⟩, h7⟩
end
end Go.Proofs.YtfihfjbakfadkaaDoor
namespace Go.Proofs.YtfihfjbakfadkaaDoor
open Go.RowKit
set_option maxRecDepth 100000
set_option linter.unusedVariables false

/-- The document's puts: the leaf at first, and the record that was put on it. -/
abbrev lp9 (R2 : Rc) : List RaP := [⟨1, 1, leafR, none, 0, none, 0, true⟩, ⟨2, 1, R2, none, 0, none, 0, true⟩]
theorem sim9 {R2 : Rc} {ss : List Sl} {slots : Int} {vr ve vr2 ve2 : Value} (hl : (ss.length : Int) = slots) (hs : 2 ≤ slots) (h0 : ss[0]? = some ⟨1, true, leafR, vr, ve⟩) (h1 : ss[1]? = some ⟨1, true, R2, vr2, ve2⟩) (h2 : ∀ (j : Nat) (y : Sl), ss[j + 2]? = some y → y.used = false) : Sim9 slots (lp9 R2) ss where
  live := fun j y hy hu => by
    match j, hy with
    | 0, hy =>
      rw [h0] at hy
      obtain rfl := Option.some.inj hy
      exact ⟨none, none, 0, 0, .inr (.inr ⟨⟨by simp, by simp; omega⟩, 0, _, .inl ⟨0, _, rfl, rfl, by simp, rfl, rfl, fun j q hj => by omega⟩, rfl, by simp, rfl, rfl, rfl, rfl, rfl, rfl, rfl, rfl⟩)⟩
    | 1, hy =>
      rw [h1] at hy
      obtain rfl := Option.some.inj hy
      refine ⟨none, none, 0, 0, .inr (.inr ⟨⟨by simp, by simp; omega⟩, 1, _, .inl ⟨1, _, rfl, rfl, by simp, rfl, rfl, fun j q hj hq => ?_⟩, rfl, by simp, rfl, rfl, rfl, rfl, rfl, rfl, rfl, rfl⟩)⟩
      obtain rfl : j = 0 := by omega
      obtain rfl := Option.some.inj hq
      simp
    | j + 2, hy => exact absurd hu (by rw [h2 j y hy]; decide)
  dead := fun s g hd => by
    by_cases hr : s < 1 ∨ (ss.length : Int) < s
    · have e : atC ss s g = 1 := by unfold atC; rw [if_pos hr]
      exact ⟨Rc.zero, none, none, 0, 0, .inl ⟨by omega, rfl, rfl, rfl, rfl, rfl, e⟩⟩
    · have hlt : (s - 1).toNat < ss.length := by omega
      obtain ⟨y, hy⟩ : ∃ y, ss[(s - 1).toNat]? = some y := ⟨_, List.getElem?_eq_getElem hlt⟩
      have e : atC ss s g = if y.used = true ∧ y.gen = g then 0 else 4 := by unfold atC; rw [if_neg hr, hy]
      have hn : ¬ (y.used = true ∧ y.gen = g) := fun h => hd (by rw [e, if_pos h])
      rw [if_neg hn] at e
      refine ⟨Rc.zero, none, none, 0, 0, .inr (.inl ⟨by omega, fun j q hq => ?_, rfl, rfl, rfl, rfl, rfl, e⟩)⟩
      rintro ⟨e1, e2, e3⟩
      match j, hq with
      | 0, hq =>
        obtain rfl := Option.some.inj hq
        have e1' : (1 : Int) = s := e1
        have ez : (s - 1).toNat = 0 := by omega
        rw [ez, h0] at hy
        obtain rfl := Option.some.inj hy
        exact hn ⟨rfl, e2⟩
      | 1, hq =>
        obtain rfl := Option.some.inj hq
        have e1' : (2 : Int) = s := e1
        have ez : (s - 1).toNat = 1 := by omega
        rw [ez, h1] at hy
        obtain rfl := Option.some.inj hy
        exact hn ⟨rfl, e2⟩
      | j + 2, hq => simp at hq
abbrev ps9 (n : Nat) : List Pg := (true, 2, 1) :: List.replicate (n - 1) (false, 0, 0)
theorem pgC9 {n : Nat} {p : Int} (hn : 3 ≤ n) (hp : p ≠ 0) : pgC (ps9 n) p = whyL (n : Int) [(0, 2, 1)] p ∧ whyL (n : Int) [(0, 2, 1)] p ≠ 0 := by
  have hl : ((ps9 n).length : Int) = (n : Int) := by simp; omega
  have hf : findL [(0, 2, 1)] p = -1 := findL_no _ _ (fun q hq => by
    obtain rfl : q = (0, 2, 1) := by simpa using hq
    exact fun e => hp e.symm)
  unfold pgC whyL
  rw [hl]
  by_cases h : p < 0 ∨ (n : Int) ≤ p
  · rw [if_pos h, if_pos h]
    exact ⟨rfl, by decide⟩
  · rw [if_neg h, if_neg h, if_pos hf]
    obtain ⟨q, hq⟩ : ∃ q : Nat, p.toNat = q + 1 := ⟨p.toNat - 1, by omega⟩
    have hx : (ps9 n)[p.toNat]? = some (false, 0, 0) := by
      rw [hq]
      show (List.replicate (n - 1) (false, (0 : Int), (0 : Int)))[q]? = _
      rw [List.getElem?_replicate, if_pos (by omega)]
    rw [hx]
    exact ⟨rfl, by decide⟩
/-- What both tell of page p. -/
def PRes (l : Lm) (R2 : Rc) (p : Int) (out : List (Int × Int)) (K : Int) : Prop :=
  (p = 0 ∧ DRes (l.s : Int) l.s (lp9 R2) 2 1 out K) ∨ (p ≠ 0 ∧ out = [] ∧ K = whyL (l.p : Int) [(0, 2, 1)] p)
theorem pres_det {l : Lm} {R2 : Rc} {p : Int} {out out' : List (Int × Int)} {K K' : Int} (h : PRes l R2 p out K) (h' : PRes l R2 p out' K') : out = out' ∧ K = K' := by
  rcases h with ⟨h1, h2⟩ | ⟨h1, h2, h3⟩
  · rcases h' with ⟨_, h2'⟩ | ⟨h1', _⟩
    · exact dres_det h2 h2'
    · exact absurd h1 h1'
  · rcases h' with ⟨h1', _⟩ | ⟨_, h2', h3'⟩
    · exact absurd h1' h1
    · exact ⟨h2.trans h2'.symm, h3.trans h3'.symm⟩
theorem PRes.le {l : Lm} {R2 : Rc} {p : Int} {out : List (Int × Int)} {K : Int} (h : PRes l R2 p out K) (hl : l.s ≤ 4096) : out.length ≤ 5000 := by
  rcases h with ⟨_, h⟩ | ⟨_, rfl, _⟩
  · have := h.le; omega
  · exact Nat.zero_le _
def MCh (l : Lm) (R2 : Rc) (p : Int) (w : World) (e : Ending) (w' : World) : Prop :=
  ∃ (out : List (Int × Int)) (K : Int) (A : Option Addr) (c : Nat) (D : Option Addr) (d : Nat) (v : Value), PRes l R2 p out K ∧ e = .returned (.tuple #[.slice A out.length c, .slice D out.length d, v]) ∧ Reads w' 2 D out.length (rpFlat out) ∧ HErr w' v K ∧ Fr none_ w w'
def DCh (l : Lm) (R2 : Rc) (p : Int) (w : World) (e : Ending) (w' : World) : Prop :=
  ∃ (out : List (Int × Int)) (K : Int) (A : Option Addr) (c : Nat) (D : Option Addr) (d : Nat), PRes l R2 p out K ∧ e = .returned (.tuple #[.slice A out.length c, .slice D out.length d, .int .i64 K]) ∧ Reads w' 2 D out.length (rpFlat out) ∧ Fr none_ w w'
theorem mpage9 {m : Nat} {k : Int} {l : Lm} {x : St} {R2 : Rc} (w : World) (h : Mm w m k l x) (hs : Sim9 (l.s : Int) (lp9 R2) x.ss) (hps : x.ps = ps9 l.p) (hp3 : 3 ≤ l.p) (hls : l.s ≤ 4096) (p : Int) :
    Calls Tryd.prog 14 #[.pointer (some ⟨m, 0, none⟩), .int .i64 p] w (MCh l R2 p w) := by
  by_cases hp : p = 0
  · subst hp
    refine (chain_any w h 0 2 1 (by rw [hps]; rfl) hls).mono ?_
    intro e w' he
    obtain ⟨out, K, A, c, D, d, v, h1, h2, h3, h4, h5⟩ := mchain_res hs he
    exact ⟨out, K, A, c, D, d, v, .inl ⟨rfl, h1⟩, h2, h3, h4, h5⟩
  · obtain ⟨e1, e2⟩ := pgC9 (n := l.p) hp3 hp
    have hb : pgC x.ps p ≠ 0 := by rw [hps, e1]; exact e2
    refine (chain_bad w h p hb).mono ?_
    rintro e w' ⟨⟨b, rfl, hB⟩, hf⟩
    rw [hps, e1] at hB
    exact ⟨[], _, none, 0, none, 0, _, .inr ⟨hp, rfl, rfl⟩, rfl, Reads.nil_, .inr ⟨e2, .at_ sTable9 p (.code (whyL (l.p : Int) [(0, 2, 1)] p)), ⟨b, _, rfl, hB, rfl⟩, rfl⟩, hf⟩
theorem dpage9 {l : Lm} {last : Int} {R2 : Rc} {PA : Option Addr} {pc : Nat} {T : Option Addr} {tc : Nat} {cn cl : Int} {cv : Value} {kk : Int} (w : World) (hra : RaIn w (lp9 R2) PA pc) (ht : ROwn w (.slice T 1 tc) [(0, 2, 1)]) (hp3 : 3 ≤ l.p) (hls : l.s ≤ 4096) (p : Int) :
    Calls Tryd.prog 15 #[.agg (dmA l (l.s : Int) last (.slice PA 2 pc) (l.p : Int) (.slice T 1 tc) cn cl cv kk), .int .i64 p] w (DCh l R2 p w) := by
  by_cases hp : p = 0
  · subst hp
    refine (dchain_ok (L := [(0, 2, 1)]) (LP := lp9 R2) w hra ht (by simp) (by omega) (by omega) 0 0 2 1 rfl rfl hls).mono ?_
    intro e w' he
    obtain ⟨out, K, A, c, D, d, h1, h2, h3, h4⟩ := dchain_res he
    exact ⟨out, K, A, c, D, d, .inl ⟨rfl, h1⟩, h2, h3, h4⟩
  · obtain ⟨e1, e2⟩ := pgC9 (n := l.p) hp3 hp
    refine (dchain_err (L := [(0, 2, 1)]) w ht (by simp) _ rfl e2).mono ?_
    rintro e w' ⟨rfl, hf⟩
    exact ⟨[], _, none, 0, none, 0, .inr ⟨hp, rfl, rfl⟩, rfl, Reads.nil_, hf⟩
end Go.Proofs.YtfihfjbakfadkaaDoor

/- Maps whose keys are refs, read as lists; a map's block beside an arena. -/
import Derived.Test.YtbmnphigfkiaeaaFirst4
import Derived.DeepKeys4
import Derived.Maps.RangeWalk
namespace Go.Proofs.Ytbmnphigfkiaeaa
open Go.RowKit Go.ChangeShapes Go.WideShapes
open Go.Maps (Keyed)
set_option maxRecDepth 100000
set_option linter.unusedVariables false

theorem laidOut4 : laidOutB Try.prog = true := by kernel_rfl
theorem wideRef : (match Try.prog.underlying 27 with | some (.array _ _) | some (.struct _) => true | _ => false) = true := by rw [Try.underlying27]
theorem ref_law : Keyed Try.prog 27 := Keyed.of_law (deep_law_laid laidOut4 (m := 3) (by omega) (of_decide_eq_true (by kernel_rfl)) (by kernel_rfl) wideRef)

theorem wf_gen {t : Int} (h1 : 0 ≤ t) (h2 : t ≤ 1099511627776) : (Lit.int .i64 t).wf = true := by
  simp [Lit.wf, IntKind.min, IntKind.max, IntKind.signed, IntKind.bits]
  omega
def RfOk (p : Rf) : Prop := (Lit.int .i64 p.1).wf = true ∧ (Lit.int .i64 p.2).wf = true
def refK (p : Rf) : Lit := .string (keyBytes [.int .i64 p.1, .int .i64 p.2])
theorem refK_lit' (p : Rf) : WideAt.IsKeyLit (refK p) := trivial
abbrev refV (p : Rf) : Value := .agg #[.int .i64 p.1, .int .i64 p.2]
theorem ref_keyType : Try.prog.keyType 27 = true := by kernel_rfl
theorem ref_cells : Try.prog.cellsOf 27 = 2 := by kernel_rfl
theorem int_cells : Try.prog.cellsOf 3 = 1 := by kernel_rfl
theorem ref_lits (m : Nat) (c0 c1 : Value) {x y : Option (List Lit)} (hx : Try.prog.keyLits (m + 1) 3 [c0] = x) (hy : Try.prog.keyLits (m + 1) 3 [c1] = y) : Try.prog.keyLits (m + 2) 27 [c0, c1] = (do let a ← x; let b ← y; pure (a ++ b)) := by
  unfold Program.keyLits
  simp only [Try.underlying27, ref_cells]
  simp [int_cells, hx, hy]
  cases x <;> cases y <;> simp
theorem int_lits (m : Nat) (c : Value) (ls : List Lit) : Try.prog.keyLits (m + 1) 3 [c] = some ls ↔ ∃ n, c = .int .i64 n ∧ (Lit.int .i64 n).wf = true ∧ ls = [.int .i64 n] := by
  unfold Program.keyLits
  simp only [Try.underlying3]
  cases c <;> simp
  rename_i k n
  constructor
  · rintro ⟨⟨rfl, hw⟩, rfl⟩; exact ⟨n, ⟨rfl, rfl⟩, hw, rfl⟩
  · rintro ⟨n', ⟨rfl, rfl⟩, hw, rfl⟩; exact ⟨⟨rfl, hw⟩, rfl⟩
theorem types_pos : ∃ m, Try.prog.types.size = m + 1 := by
  have h : 0 < Try.prog.types.size := of_decide_eq_true (by kernel_rfl)
  exact ⟨Try.prog.types.size - 1, by omega⟩
theorem keyOf_ref {p : Rf} (h : RfOk p) : keyOf Try.prog 27 (refV p) = some (refK p) := by
  obtain ⟨m, hm⟩ := types_pos
  have h0 := (int_lits m (.int .i64 p.1) [.int .i64 p.1]).2 ⟨_, rfl, h.1, rfl⟩
  have h1 := (int_lits m (.int .i64 p.2) [.int .i64 p.2]).2 ⟨_, rfl, h.2, rfl⟩
  have hl := ref_lits m (.int .i64 p.1) (.int .i64 p.2) h0 h1
  have hf : (refV p).formed Try.prog 27 = true := by simp [Value.formed, Try.underlying27, ref_cells]
  unfold keyOf
  rw [Try.underlying27]
  simp only [ref_keyType, hf, hm]
  simp [hl, refK, Value.cells]
theorem keyOf_ref_inv {key : Value} {kl : Lit} (h : keyOf Try.prog 27 key = some kl) : ∃ p : Rf, key = refV p ∧ kl = refK p ∧ RfOk p := by
  obtain ⟨m, hm⟩ := types_pos
  unfold keyOf at h
  rw [Try.underlying27] at h
  simp only [ref_keyType, Bool.true_and] at h
  split at h
  · rename_i hf
    have hc : ∃ cs : Array Value, key = .agg cs ∧ cs.size = 2 := by
      cases key <;> simp [Value.formed, Try.underlying27, ref_cells] at hf
      exact ⟨_, rfl, hf⟩
    obtain ⟨⟨cs⟩, rfl, hs⟩ := hc
    match cs, hs with
    | [c0, c1], _ =>
      simp only [Value.cells, hm] at h
      rw [show m + 1 + 1 = m + 2 from rfl, ref_lits m c0 c1 rfl rfl] at h
      cases h0 : Try.prog.keyLits (m + 1) 3 [c0] with
      | none => rw [h0] at h; simp at h
      | some a =>
        cases h1 : Try.prog.keyLits (m + 1) 3 [c1] with
        | none => rw [h0, h1] at h; simp at h
        | some b =>
          obtain ⟨x, rfl, hx, rfl⟩ := (int_lits m c0 a).1 h0
          obtain ⟨y, rfl, hy, rfl⟩ := (int_lits m c1 b).1 h1
          rw [h0, h1] at h
          exact ⟨(x, y), rfl, by simpa [refK] using h.symm, hx, hy⟩
  · cases h
theorem refK_inj {p q : Rf} (hp : RfOk p) (hq : RfOk q) (h : refK p = refK q) : p = q := by
  have := ref_law.inj (keyOf_ref hp) (h ▸ keyOf_ref hq)
  have e : p.1 = q.1 ∧ p.2 = q.2 := by simpa [refV] using this
  exact Prod.ext e.1 e.2

abbrev RMap (w : World) (M n : Nat) (D : IntMap) : Prop := w.ownsMap Try.prog 27 (plainElem (H := Unit) Try.prog 3) M n D
abbrev RRange (w : World) (M r n : Nat) (D : IntMap) (left : Lit → Bool) (cnt : Nat) : Prop := w.ranges Try.prog 27 (plainElem (H := Unit) Try.prog 3) M r n D left cnt
theorem rmap_fr {w w' : World} {S : Nat → Prop} {M n : Nat} {D : IntMap} (h : RMap w M n D) (hf : Fr S w w') (hS : ¬ S M) : RMap w' M n D := by
  have hl := h.lt
  obtain ⟨es, clock, hb, r⟩ := h
  exact ⟨es, clock, (hf.block M hl hS).trans hb, r⟩
theorem rrange_fr {w w' : World} {S : Nat → Prop} {M r n cnt : Nat} {D : IntMap} {left : Lit → Bool} (h : RRange w M r n D left cnt) (hf : Fr S w w') (hM : ¬ S M) (hr : ¬ S r) : RRange w' M r n D left cnt := by
  have h1 := h.owns.lt
  have h2 := h.lt
  obtain ⟨es, clock, since, seen, c0, hb, F, hs, hD, hr', rest⟩ := h
  exact ⟨es, clock, since, seen, c0, (hf.block M h1 hM).trans hb, F, hs, hD, (hf.block r h2 hr).trans hr', rest⟩
theorem rlook {w : World} {M n : Nat} {D : IntMap} (h : RMap w M n D) {p : Rf} (hp : RfOk p) {c : Int} (hat : D.atKey (refK p) (.lit (.int .i64 0)) = .lit (.int .i64 c)) :
    (Instr.lookup 42 (.map (some M)) (.agg #[.int .i64 p.1, .int .i64 p.2]) false).run Try.prog w = .ok (.int .i64 c) w := by
  obtain ⟨c', hrun, hat', _⟩ := h.lookup_int ref_law Try.underlying42 Try.underlying3 (zero_int4 _) (keyOf_ref hp)
  obtain rfl : c = c' := by simpa using hat.symm.trans hat'
  exact hrun
/-- A map's block is none of an arena's. -/
theorem Ar.off {w w' : World} {a G M : Nat} {last : Int} {ss : List Sl} (h : Ar w a G last ss) (hM : ∃ es c, w.heap[M]? = some (.map es c)) (hf : Fr (only M) w w') : Ar w' a G last ss := by
  obtain ⟨es, c, hM⟩ := hM
  obtain ⟨cs, hG, hc⟩ := h.hG
  have no : ∀ {g : Nat} {t : TypeId} {cs : Array Value}, Blk w g t cs → g ≠ M := by
    rintro g t cs hb rfl
    unfold Blk at hb
    rw [hM] at hb
    cases hb
  have own : ∀ {e : TypeId} {v : Value} {n : Nat} {xs : List Value}, w.ownsRow 0 e 2 v n xs → ∀ k, v.ownBlock = some k → ¬ only M k := by
    intro e v n xs ho k hk e
    rcases ho.2 with ⟨rfl, _⟩ | ⟨g, cap, cur, rfl, _, hh, _⟩
    · simp [Value.ownBlock] at hk
    · obtain rfl : g = k := by simpa [Value.ownBlock] using hk
      have e' : g = M := e
      subst e'
      rw [hM] at hh
      cases hh
  exact ⟨h.hA.fr hf (only_ne (no h.hA)), ⟨cs, hG.fr hf (only_ne (no hG)), hc⟩, fun i s hs => (h.own i s hs).fr hf (own (h.own i s hs).r) (own (h.own i s hs).e), h.l40, h.len, h.gen, h.sz⟩
theorem own_off {w : World} {base size n M : Nat} {e : TypeId} {v : Value} {xs : List Value} (ho : w.ownsRow base e size v n xs) (hM : ∃ es c, w.heap[M]? = some (.map es c)) : ∀ k, v.ownBlock = some k → ¬ only M k := by
  obtain ⟨es, c, hM⟩ := hM
  intro k hk e
  rcases ho.2 with ⟨rfl, _⟩ | ⟨g, cap, cur, rfl, _, hh, _⟩
  · simp [Value.ownBlock] at hk
  · obtain rfl : g = k := by simpa [Value.ownBlock] using hk
    have e' : g = M := e
    subst e'
    rw [hM] at hh
    cases hh
theorem rmap_at {w : World} {M n : Nat} {D : IntMap} (h : RMap w M n D) : ∃ es c, w.heap[M]? = some (.map es c) := by
  obtain ⟨es, clock, hb, r⟩ := h
  exact ⟨es, clock, hb⟩

/-- The map has 1 at just the refs of S. -/
structure MarksR (D : IntMap) (S : List Rf) : Prop where
  m : Maps.Tidy D
  has : ∀ p, RfOk p → (Maps.has D (refK p) = true ↔ p ∈ S)
  at_ : ∀ p ∈ S, ∀ z, D.atKey (refK p) z = .lit (.int .i64 1)
  ok : ∀ p ∈ S, RfOk p
  size : Maps.size D = S.length
theorem MarksR.empty : MarksR (.map []) [] := ⟨Maps.tidy_empty, fun p _ => by simp [Maps.has], fun p h => by simp at h, fun p h => by simp at h, rfl⟩
theorem MarksR.no {D : IntMap} {S : List Rf} (h : MarksR D S) {p : Rf} (hp : RfOk p) (hn : p ∉ S) (z : IntMap) : D.atKey (refK p) z = z := by
  refine Maps.atKey_of_not_has ?_ z
  cases hh : Maps.has D (refK p) with
  | false => rfl
  | true => exact absurd ((h.has p hp).1 hh) hn
theorem MarksR.put {D : IntMap} {S : List Rf} (h : MarksR D S) {p : Rf} (hp : RfOk p) (hn : p ∉ S) : MarksR (D.put (refK p) (.lit (.int .i64 1))) (S ++ [p]) := by
  have hm : Maps.IsMap D := h.m.isMap
  refine ⟨h.m.put (refK_lit' p) _, fun q hq => ?_, fun q hq z => ?_, fun q hq => ?_, ?_⟩
  · by_cases e : q = p
    · subst e
      simp [Maps.has_put_same hm (k := refK q) (refK_lit' q)]
    · rw [Maps.has_put_other (fun e' => e (refK_inj hq hp e')), h.has q hq]
      simp [e]
  · by_cases e : q = p
    · subst e; exact Maps.atKey_put_same hm (refK_lit' q) _ _
    · have hq' : q ∈ S := by simpa [e] using hq
      rw [Maps.atKey_put_other (fun e' => e (refK_inj (h.ok q hq') hp e'))]
      exact h.at_ q hq' z
  · rcases List.mem_append.1 hq with hq | hq
    · exact h.ok q hq
    · obtain rfl : q = p := by simpa using hq
      exact hp
  · rw [Maps.size_put h.m, if_neg (by rw [h.has p hp]; exact hn), h.size]
    simp
theorem MarksR.del {D : IntMap} {S : List Rf} (h : MarksR D S) (hd : S.Nodup) {p : Rf} (hp : p ∈ S) : MarksR (D.del (refK p)) (S.erase p) := by
  have hw := h.ok p hp
  refine ⟨h.m.del _, fun q hq => ?_, fun q hq z => ?_, fun q hq => h.ok q (List.mem_of_mem_erase hq), ?_⟩
  · by_cases e : q = p
    · subst e
      rw [Maps.has_del_same]
      simp [hd.mem_erase_iff]
    · rw [Maps.has_del_other (fun e' => e (refK_inj hq hw e')), h.has q hq, hd.mem_erase_iff]
      simp [e]
  · rw [hd.mem_erase_iff] at hq
    rw [Maps.atKey_del_other (fun e' => hq.1 (refK_inj (h.ok q hq.2) hw e'))]
    exact h.at_ q hq.2 z
  · have h1 := Maps.size_del h.m (k := refK p)
    rw [if_pos ((h.has p hw).2 hp), h.size] at h1
    rw [List.length_erase_of_mem hp]
    omega

/-- What the law keeps of live and freed refs. -/
structure OnceI (ss : List Sl) (S T : List Rf) : Prop where
  nd : S.Nodup
  live : ∀ p, p ∈ S ↔ ∃ (i : Nat) (s : Sl), ss[i]? = some s ∧ s.used = true ∧ p = ((i : Int) + 1, s.gen)
  gone : ∀ p ∈ T, ∃ (i : Nat) (s : Sl), ss[i]? = some s ∧ p.1 = (i : Int) + 1 ∧ p.2 ≤ s.gen ∧ ¬ (s.used = true ∧ s.gen = p.2)
  cnt : S.length = (liveTo ss ss.length).length
theorem live_none {n : Nat} : ∀ k, liveTo (List.replicate n Sl.zero) k = []
  | 0 => rfl
  | k + 1 => by
    rw [liveTo, live_none k]
    by_cases h : k < n
    · rw [List.getElem?_replicate_of_lt h]; rfl
    · rw [List.getElem?_eq_none (by simp; omega)]; rfl
theorem OnceI.start (n : Nat) : OnceI (List.replicate n Sl.zero) [] [] := by
  refine ⟨List.nodup_nil, fun p => ⟨fun h => by simp at h, ?_⟩, fun p h => by simp at h, by rw [live_none]⟩
  rintro ⟨i, s, hs, hu, -⟩
  rw [List.eq_of_mem_replicate (List.mem_of_getElem? hs)] at hu
  cases hu
section
variable {ss : List Sl} {S T : List Rf} {i : Nat} {s : Sl}
theorem OnceI.fresh (h : OnceI ss S T) (hs : ss[i]? = some s) (hu : s.used = false) : ((i : Int) + 1, s.gen + 1) ∉ S ∧ ((i : Int) + 1, s.gen + 1) ∉ T := by
  constructor
  · intro hm
    obtain ⟨j, t, ht, htu, he⟩ := (h.live _).1 hm
    simp only [Prod.mk.injEq] at he
    obtain rfl : i = j := by omega
    rw [hs] at ht
    obtain rfl := Option.some.inj ht
    rw [hu] at htu
    cases htu
  · intro hm
    obtain ⟨j, t, ht, h1, h2, -⟩ := h.gone _ hm
    simp only at h1 h2
    obtain rfl : i = j := by omega
    rw [hs] at ht
    obtain rfl := Option.some.inj ht
    omega
theorem OnceI.put (h : OnceI ss S T) (hs : ss[i]? = some s) (hu : s.used = false) {t : Sl} (ht : t.used = true) (hg : t.gen = s.gen + 1) : OnceI (ss.set i t) (S ++ [((i : Int) + 1, s.gen + 1)]) T := by
  have hi := (List.getElem?_eq_some_iff.1 hs).1
  have hf := (h.fresh hs hu).1
  refine ⟨?_, fun p => ?_, fun p hp => ?_, ?_⟩
  · rw [List.nodup_append]
    refine ⟨h.nd, by simp, ?_⟩
    intro a ha b hb e
    have hb' : b = ((i : Int) + 1, s.gen + 1) := by simpa using hb
    rw [e, hb'] at ha
    exact hf ha
  · rw [List.mem_append, h.live p]
    constructor
    · rintro (⟨j, u, hj, hu', rfl⟩ | hp)
      · have hne : i ≠ j := by
          rintro rfl
          rw [hs] at hj
          obtain rfl := Option.some.inj hj
          rw [hu] at hu'
          cases hu'
        exact ⟨j, u, by rw [List.getElem?_set_ne hne]; exact hj, hu', rfl⟩
      · have hp' : p = ((i : Int) + 1, s.gen + 1) := by simpa using hp
        exact ⟨i, t, List.getElem?_set_self hi, ht, by rw [hg]; exact hp'⟩
    · rintro ⟨j, u, hj, hu', rfl⟩
      by_cases e : i = j
      · subst e
        rw [List.getElem?_set_self hi] at hj
        obtain rfl := Option.some.inj hj
        right
        simp [hg]
      · rw [List.getElem?_set_ne e] at hj
        exact .inl ⟨j, u, hj, hu', rfl⟩
  · obtain ⟨j, u, hj, h1, h2, h3⟩ := h.gone p hp
    by_cases e : i = j
    · subst e
      rw [hs] at hj
      obtain rfl := Option.some.inj hj
      exact ⟨i, t, List.getElem?_set_self hi, h1, by omega, fun e => by omega⟩
    · exact ⟨j, u, by rw [List.getElem?_set_ne e]; exact hj, h1, h2, h3⟩
  · rw [List.length_set, List.length_append, h.cnt, live_put hs hu ht, if_pos hi]
    rfl
theorem OnceI.del (h : OnceI ss S T) (hs : ss[i]? = some s) (hu : s.used = true) {t : Sl} (ht : t.used = false) (hg : t.gen = s.gen) : OnceI (ss.set i t) (S.erase ((i : Int) + 1, s.gen)) (T ++ [((i : Int) + 1, s.gen)]) ∧ ((i : Int) + 1, s.gen) ∈ S ∧ ((i : Int) + 1, s.gen) ∉ T := by
  have hi := (List.getElem?_eq_some_iff.1 hs).1
  have hm : ((i : Int) + 1, s.gen) ∈ S := (h.live _).2 ⟨i, s, hs, hu, rfl⟩
  refine ⟨⟨h.nd.erase _, fun p => ?_, fun p hp => ?_, ?_⟩, hm, fun hT => ?_⟩
  · rw [h.nd.mem_erase_iff, h.live p]
    constructor
    · rintro ⟨hne, j, u, hj, hu', rfl⟩
      have hij : i ≠ j := by
        rintro rfl
        rw [hs] at hj
        obtain rfl := Option.some.inj hj
        exact hne rfl
      exact ⟨j, u, by rw [List.getElem?_set_ne hij]; exact hj, hu', rfl⟩
    · rintro ⟨j, u, hj, hu', rfl⟩
      have hij : i ≠ j := by
        rintro rfl
        rw [List.getElem?_set_self hi] at hj
        obtain rfl := Option.some.inj hj
        rw [ht] at hu'
        cases hu'
      rw [List.getElem?_set_ne hij] at hj
      exact ⟨fun e => hij (by simp only [Prod.mk.injEq] at e; omega), j, u, hj, hu', rfl⟩
  · rcases List.mem_append.1 hp with hp | hp
    · obtain ⟨j, u, hj, h1, h2, h3⟩ := h.gone p hp
      by_cases e : i = j
      · subst e
        rw [hs] at hj
        obtain rfl := Option.some.inj hj
        exact ⟨i, t, List.getElem?_set_self hi, h1, by omega, fun e => by rw [ht] at e; cases e.1⟩
      · exact ⟨j, u, by rw [List.getElem?_set_ne e]; exact hj, h1, h2, h3⟩
    · obtain rfl : p = ((i : Int) + 1, s.gen) := by simpa using hp
      exact ⟨i, t, List.getElem?_set_self hi, rfl, by show s.gen ≤ t.gen; omega, fun e => by rw [ht] at e; cases e.1⟩
  · have := live_del hs hu ht ss.length
    rw [if_pos hi] at this
    rw [List.length_set, List.length_erase_of_mem hm, h.cnt]
    omega
  · obtain ⟨j, u, hj, h1, h2, h3⟩ := h.gone _ hT
    simp only at h1 h2 h3
    obtain rfl : i = j := by omega
    rw [hs] at hj
    obtain rfl := Option.some.inj hj
    exact h3 ⟨hu, rfl⟩
end
/-- While the live refs are gone through: no slot that was met is still to come. -/
def MetU (S : List Rf) (left : Lit → Bool) (U : List Int) : Prop := ∀ p ∈ S, left (refK p) = true → p.1 ∉ U
theorem MetU.step {ss : List Sl} {S T : List Rf} {D : IntMap} (h : OnceI ss S T) (hD : MarksR D S) {left : Lit → Bool} {U : List Int} (hU : MetU S left U) {p : Rf} (hp : p ∈ S) : MetU S (fun z => left z && !z.sameKey (refK p)) (U ++ [p.1]) := by
  intro q hq hl hm
  simp only [Bool.and_eq_true, Bool.not_eq_true'] at hl
  rcases List.mem_append.1 hm with hm | hm
  · exact hU q hq hl.1 hm
  · have e : q.1 = p.1 := by simpa using hm
    obtain ⟨i, s, hs, hu, rfl⟩ := (h.live q).1 hq
    obtain ⟨j, t, ht, hu', rfl⟩ := (h.live p).1 hp
    simp only at e
    obtain rfl : i = j := by omega
    rw [hs] at ht
    obtain rfl := Option.some.inj ht
    have := WideAt.sameKey_self (refK_lit' ((i : Int) + 1, s.gen))
    rw [this] at hl
    cases hl.2
theorem Ar.neM {w : World} {a G M n : Nat} {last : Int} {ss : List Sl} {D : IntMap} (h : Ar w a G last ss) (hM : RMap w M n D) : M ≠ G := by
  obtain ⟨es, c, hM⟩ := rmap_at hM
  obtain ⟨cs, hG, hc⟩ := h.hG
  rintro rfl
  unfold Blk at hG
  rw [hM] at hG
  cases hG
theorem rmap_told {w w' : World} {base size n M k : Nat} {e : TypeId} {v : Value} {xs : List Value} {D : IntMap} (h : RMap w M k D) (ho : w.ownsRow base e size v n xs) (hg : w.grownBy w' v.ownBlock) : RMap w' M k D :=
  h.kept hg (fun e => own_off ho (rmap_at h) M e.symm rfl)
theorem Ar.told {w w' : World} {base n a G : Nat} {last : Int} {ss : List Sl} {v : Value} {xs : List Value} (h : Ar w a G last ss) (ho : w.ownsRow base 27 2 v n xs) (hg : w.grownBy w' v.ownBlock) : Ar w' a G last ss := by
  rcases ho.2 with ⟨rfl, _⟩ | ⟨g, cap, cur, rfl, _, hh, _⟩
  · exact h.keep ((Fr.refl none_ w).grown hg (fun k hk => by simp [Value.ownBlock] at hk))
  · have hf : Fr (only g) w w' := (Fr.refl (only g) w).grown hg (fun k hk => .inl (show k = g by simpa [Value.ownBlock] using hk.symm))
    have hb : Blk w g 27 cur := hh
    obtain ⟨cs, hG, _⟩ := h.hG
    exact h.beside hf hb (by decide) (by decide) (Blk.ne_ h.hA hb (by decide)) (Blk.ne_ hG hb (by decide))
theorem atC_stale {ss : List Sl} {S T : List Rf} (h : OnceI ss S T) {p : Rf} (hp : p ∈ T) : atC ss p.1 p.2 = 4 := by
  obtain ⟨i, s, hs, h1, h2, h3⟩ := h.gone p hp
  have hi := (List.getElem?_eq_some_iff.1 hs).1
  unfold atC
  rw [if_neg (by omega), show (p.1 - 1).toNat = i by omega, hs]
  exact if_neg h3
section
variable {P : Program} (w : World) {ops : Array Oper} {rest : List Oper} {o : Oper} {a : Act} {Q : Exit → Act → World → Prop}
/-- A step of a range over a map whose keys are refs. -/
theorem wpList_next_rr (hg : o.guard = none) (it : Operand) (hop : o.op = Op.next it false)
    (b r n : Nat) (D : IntMap) (left : Lit → Bool) (cnt : Nat) (hit : a.eval it = .pointer (some ⟨r, 0, none⟩)) (h : RRange w b r n D left cnt)
    (hDone : cnt = 0 → (∀ kl, left kl = false) → wpList Try.prog ops Q rest (a.put o.dst (.tuple #[.bool false])) w)
    (hMore : ∀ (x y c : Int) (w' : World) (cnt' : Nat), RfOk (x, y) → left (refK (x, y)) = true → Maps.has D (refK (x, y)) = true → RRange w' b r n D (fun z => left z && !z.sameKey (refK (x, y))) cnt' → cnt' < cnt →
      w.grownBy w' (some r) → w'.heap.size = w.heap.size → (Instr.entry (.pointer (some ⟨r, 0, none⟩))).run Try.prog w' = .ok (.tuple #[.agg #[.int .i64 x, .int .i64 y], .int .i64 c]) w' → wpList Try.prog ops Q rest (a.put o.dst (.tuple #[.bool true, .agg #[.int .i64 x, .int .i64 y], .int .i64 c])) w') :
    wpList Try.prog ops Q (o :: rest) a w :=
  wpList_next_ranges w hg it hop 27 ref_law (plainElem Try.prog 3) refV (Value.int .i64) (fun key kl hkey => by obtain ⟨p, rfl, _⟩ := keyOf_ref_inv hkey; exact ⟨p, rfl⟩) (fun v y hv => by obtain ⟨c, rfl, _⟩ := plainElem_int_inv Try.underlying3 hv; exact ⟨c, rfl⟩)
    b r n D left cnt hit h hDone (fun p c kl y w' cnt' hkey hlk hv hat hrg hlt hgr hsz hen => by
      obtain ⟨p', ep, rfl, hp⟩ := keyOf_ref_inv hkey
      have e : p = p' := by
        have e : p.1 = p'.1 ∧ p.2 = p'.2 := by simpa [refV] using ep
        exact Prod.ext e.1 e.2
      subst e
      exact hMore p.1 p.2 c w' cnt' hp hlk (Maps.has_true_of_atKey hat) hrg hlt hgr hsz hen)
end
end Go.Proofs.Ytbmnphigfkiaeaa

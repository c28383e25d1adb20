/- The two arenas in one memory. -/
import Derived.Test.YtfoljojacakkeaaDoorSimA4
import Derived.Test.YtfoljojacakkeaaDoorAlloc
namespace Go.Proofs.YtfoljojacakkeaaDoor
open Go.RowKit
set_option linter.unusedVariables false

theorem Reads.off {w w' : World} {size : Nat} {A : Option Addr} {n : Nat} {xs : List Value} {g : Nat} (h : Reads w size A n xs) (hf : Fr (only g) w w') (hg : ∀ ad, A = some ad → 0 < n → ad.block ≠ g) : Reads w' size A n xs := by
  rcases Nat.eq_zero_or_pos n with h0 | h0
  · exact ⟨h.1, fun hn => absurd hn (by omega)⟩
  · exact h.fr hf (fun ad had => only_ne (hg ad had h0))
def OffR (G : Nat) (R : Rc) (A B : Option Addr) : Prop := (∀ ad, A = some ad → 0 < R.rows.length → ad.block ≠ G) ∧ (∀ ad, B = some ad → 0 < R.ents.length → ad.block ≠ G)
theorem RecReads.off {w w' : World} {R : Rc} {A B : Option Addr} {g : Nat} (h : RecReads w R A B) (hf : Fr (only g) w w') (hg : OffR g R A B) : RecReads w' R A B := ⟨h.1.off hf hg.1, h.2.off hf hg.2⟩
theorem RaIn.off {w w' : World} {L : List RaP} {A : Option Addr} {c g : Nat} (h : RaIn w L A c) (hf : Fr (only g) w w') (hA : ∀ ad, A = some ad → 0 < L.length → ad.block ≠ g) (hR : ∀ p ∈ L, OffR g p.R p.A p.B) : RaIn w' L A c :=
  ⟨h.rd.off hf hA, h.cap, h.capm, h.len, fun p hp => (h.recs p hp).off hf (hR p hp), h.sz⟩
/-- Both arenas, agreeing. -/
structure PlA (w : World) (a G : Nat) (slots last : Int) (ss : List Sl) (L : List RaP) (A : Option Addr) (c : Nat) : Prop where
  ar : Ar w a G last ss
  ra : RaIn w L A c
  sim : SimA ss L
  ns : (ss.length : Int) = slots
  xg : ∀ p ∈ L, 0 ≤ p.xg
  offA : ∀ ad, A = some ad → 0 < L.length → ad.block ≠ G
  offR : ∀ p ∈ L, OffR G p.R p.A p.B
section
variable {w w' : World} {a G : Nat} {slots last : Int} {ss : List Sl} {L : List RaP} {A : Option Addr} {c : Nat}
theorem PlA.keep (h : PlA w a G slots last ss L A c) (hf : Fr none_ w w') : PlA w' a G slots last ss L A c := ⟨h.ar.keep hf, h.ra.keep hf, h.sim, h.ns, h.xg, h.offA, h.offR⟩
theorem PlA.slot (h : PlA w a G slots last ss L A c) {i : Nat} {s : Sl} (hs : ss[i]? = some s) : slotP L (i + 1 : Nat) = (s.gen, s.used) := h.sim.slot i s hs
theorem PlA.gen0 (h : PlA w a G slots last ss L A c) (n : Nat) : 0 ≤ (slotP L n).1 := by
  rcases slotTo_spec L (n : Int) L.length with ⟨h1, _⟩ | ⟨j, p, a1, a2, a3, a4, a5⟩
  · rw [slotP, h1]; decide
  · rw [slotP, a4]; exact h.xg p (List.mem_of_getElem? a2)
/-- Both take the same slot. -/
theorem PlA.first (h : PlA w a G slots last ss L A c) {i : Nat} {s : Sl} (hs : ss[i]? = some s) (hu : s.used = false ∧ s.gen ≠ last) (hm : ∀ j t, j < i → ss[j]? = some t → t.used = true ∨ t.gen = last)
    {k : Nat} (hk : (k : Int) + 1 ≤ slots) (hno : NoSlot last L k) (k1 : (slotP L (k + 1 : Nat)).2 = false) (k2 : (slotP L (k + 1 : Nat)).1 < last) : k = i := by
  rcases Nat.lt_trichotomy k i with hl | rfl | hl
  · have hkl : k < ss.length := by have := h.ns; omega
    obtain ⟨t, ht⟩ : ∃ t, ss[k]? = some t := ⟨_, List.getElem?_eq_getElem hkl⟩
    rw [h.slot ht] at k1 k2
    rcases hm k t hl ht with e | e
    · rw [show t.used = true from e] at k1; cases k1
    · have k2' : t.gen < last := k2
      omega
  · rfl
  · have := hno (i + 1) (by omega) (by omega)
    rw [h.slot hs] at this
    have hg := h.ar.gen s (List.mem_of_getElem? hs)
    rcases this with e | e
    · rw [show s.used = true from e] at hu; cases hu.1
    · have e' : last ≤ s.gen := e
      exact absurd (show s.gen = last by omega) hu.2
theorem PlA.none_ (h : PlA w a G slots last ss L A c) (hm : ∀ (j : Nat) t, ss[j]? = some t → t.used = true ∨ t.gen = last) {k : Nat} (hk : (k : Int) + 1 ≤ slots) (k1 : (slotP L (k + 1 : Nat)).2 = false) (k2 : (slotP L (k + 1 : Nat)).1 < last) : False := by
  have hkl : k < ss.length := by have := h.ns; omega
  obtain ⟨t, ht⟩ : ∃ t, ss[k]? = some t := ⟨_, List.getElem?_eq_getElem hkl⟩
  rw [h.slot ht] at k1 k2
  rcases hm k t ht with e | e
  · rw [show t.used = true from e] at k1; cases k1
  · have k2' : t.gen < last := k2
    omega
theorem PlA.some_ (h : PlA w a G slots last ss L A c) {i : Nat} {s : Sl} (hs : ss[i]? = some s) (hu : s.used = false ∧ s.gen ≠ last) (hno : NoSlot last L slots.toNat) : False := by
  have hi := (List.getElem?_eq_some_iff.1 hs).1
  have := hno (i + 1) (by omega) (by have := h.ns; omega)
  rw [h.slot hs] at this
  have hg := h.ar.gen s (List.mem_of_getElem? hs)
  rcases this with e | e
  · rw [show s.used = true from e] at hu; cases hu.1
  · have e' : last ≤ s.gen := e
    exact absurd (show s.gen = last by omega) hu.2
theorem PlA.why (h : PlA w a G slots last ss L A c) : ∀ k, k ≤ ss.length → whyTo L k = allocErr (ss.take k)
  | 0, _ => rfl
  | k + 1, hk => by
    have ih := PlA.why h k (by omega)
    obtain ⟨s, hs⟩ : ∃ s, ss[k]? = some s := ⟨_, List.getElem?_eq_getElem (by omega)⟩
    have e := h.sim.slot k s hs
    cases hu : s.used with
    | true => rw [allocErr_used hs hu, whyTo, e, hu]; exact ih
    | false => rw [allocErr_worn hs hu, whyTo, e, hu]; rfl
/-- What a put leaves. -/
theorem PlA.put (h : PlA w a G slots last ss L A c) {i : Nat} {s : Sl} (hs : ss[i]? = some s) (hu : s.used = false) {R : Rc} {vr ve : Value} {A' B' A2 : Option Addr} {ca cb c2 : Nat}
    (h1 : Ar w' a G last (ss.set i ⟨s.gen + 1, true, R, vr, ve⟩)) (h2 : RaIn w' (L ++ [⟨(i : Int) + 1, s.gen + 1, R, A', ca, B', cb, true⟩]) A2 c2) (hA2 : ∀ ad, A2 = some ad → w.heap.size ≤ ad.block) (hG : G < w.heap.size) (hO : OffR G R A' B') :
    PlA w' a G slots last (ss.set i ⟨s.gen + 1, true, R, vr, ve⟩) (L ++ [⟨(i : Int) + 1, s.gen + 1, R, A', ca, B', cb, true⟩]) A2 c2 := by
  have hg := h.ar.gen s (List.mem_of_getElem? hs)
  refine ⟨h1, h2, h.sim.put hs hu rfl rfl rfl rfl rfl, by rw [List.length_set]; exact h.ns, fun p hp => ?_, fun ad had _ => by have := hA2 ad had; omega, fun p hp => ?_⟩
  · rcases List.mem_append.1 hp with hp | hp
    · exact h.xg p hp
    · obtain rfl := List.mem_singleton.1 hp
      show 0 ≤ s.gen + 1
      omega
  · rcases List.mem_append.1 hp with hp | hp
    · exact h.offR p hp
    · obtain rfl := List.mem_singleton.1 hp
      exact hO
/-- What a free leaves. -/
theorem PlA.free (h : PlA w a G slots last ss L A c) {i : Nat} {s t : Sl} (hs : ss[i]? = some s) {j : Nat} {p : RaP} (hp : L[j]? = some p) (hx : p.xs = (i : Int) + 1) (hl : p.live = true) (ht : t.gen = s.gen) (hu : t.used = false) {A2 : Option Addr} {c2 : Nat}
    (h1 : Ar w' a G last (ss.set i t)) (h2 : RaIn w' (L.set j (deadP p)) A2 c2) (hA2 : A2 = A ∨ ∀ ad, A2 = some ad → w.heap.size ≤ ad.block) (hG : G < w.heap.size) :
    PlA w' a G slots last (ss.set i t) (L.set j (deadP p)) A2 c2 := by
  have key : ∀ q ∈ L.set j (deadP p), ∃ q' ∈ L, q.xg = q'.xg ∧ q.R = q'.R ∧ q.A = q'.A ∧ q.B = q'.B := by
    intro q hq
    rcases List.mem_or_eq_of_mem_set hq with hq | rfl
    · exact ⟨q, hq, rfl, rfl, rfl, rfl⟩
    · exact ⟨p, List.mem_of_getElem? hp, rfl, rfl, rfl, rfl⟩
  refine ⟨h1, h2, h.sim.free hs hp hx hl ht hu, by rw [List.length_set]; exact h.ns, fun q hq => ?_, fun ad had hn => ?_, fun q hq => ?_⟩
  · obtain ⟨q', m, e1, _⟩ := key q hq
    rw [e1]; exact h.xg q' m
  · rcases hA2 with rfl | hA2
    · exact h.offA ad had (by rwa [List.length_set] at hn)
    · have := hA2 ad had; omega
  · obtain ⟨q', m, _, e2, e3, e4⟩ := key q hq
    rw [e2, e3, e4]; exact h.offR q' m
end
end Go.Proofs.YtfoljojacakkeaaDoor

/- The two arenas, beside a write into a box that is none of theirs. -/
import Derived.Test.YtfoljojacakkeaaDoorPlA4
namespace Go.Proofs.YtfoljojacakkeaaDoor
open Go.RowKit
set_option linter.unusedVariables false

/-- The document's rows lie ahead of lo, or from hi on. -/
structure LowA (lo hi : Nat) (L : List RaP) (A : Option Addr) : Prop where
  a : ∀ ad, A = some ad → 0 < L.length → ad.block < lo ∨ hi ≤ ad.block
  r : ∀ p ∈ L, (∀ ad, p.A = some ad → 0 < p.R.rows.length → ad.block < lo) ∧ (∀ ad, p.B = some ad → 0 < p.R.ents.length → ad.block < lo)
theorem Reads.blk4 {w : World} {size n : Nat} {A : Option Addr} {xs : List Value} (h : Reads w size A n xs) (hs : 0 < size) (hn : 0 < n) {ad : Addr} (ha : A = some ad) : ad.block < w.heap.size := by
  obtain ⟨b, off, e, hb, _⟩ := reads_lit h hs hn
  rw [e] at ha
  injection ha with ha
  rw [← ha]; exact hb
theorem RecReads.low {w : World} {R : Rc} {A B : Option Addr} (h : RecReads w R A B) : (∀ ad, A = some ad → 0 < R.rows.length → ad.block < w.heap.size) ∧ (∀ ad, B = some ad → 0 < R.ents.length → ad.block < w.heap.size) :=
  ⟨fun ad e hn => h.1.blk4 (by decide) hn e, fun ad e hn => h.2.blk4 (by decide) hn e⟩
section
variable {w w' : World} {a G : Nat} {slots last : Int} {ss : List Sl} {L : List RaP} {A : Option Addr} {c : Nat}
theorem PlA.low (h : PlA w a G slots last ss L A c) (hi : Nat) : LowA w.heap.size hi L A :=
  ⟨fun ad e hn => .inl (h.ra.rd.blk4 (by decide) hn e), fun p hp => (h.ra.recs p hp).low⟩
theorem LowA.free {lo hi : Nat} (h : LowA lo hi L A) {j : Nat} {p : RaP} (hp : L[j]? = some p) {A2 : Option Addr} (hA : A2 = A ∨ ∀ ad, A2 = some ad → hi ≤ ad.block) : LowA lo hi (L.set j (deadP p)) A2 := by
  refine ⟨fun ad e hn => ?_, fun q hq => ?_⟩
  · rcases hA with rfl | hA
    · exact h.a ad e (by rwa [List.length_set] at hn)
    · exact .inr (hA ad e)
  · rcases List.mem_or_eq_of_mem_set hq with hq | rfl
    · exact h.r q hq
    · exact h.r p (List.mem_of_getElem? hp)
theorem LowA.same {lo hi : Nat} (h : LowA lo hi L A) {A2 : Option Addr} (hA : A2 = A ∨ ∀ ad, A2 = some ad → hi ≤ ad.block) : LowA lo hi L A2 := by
  refine ⟨fun ad e hn => ?_, h.r⟩
  rcases hA with rfl | hA
  · exact h.a ad e hn
  · exact .inr (hA ad e)
theorem LowA.put {lo hi : Nat} (h : LowA lo hi L A) {p : RaP} (hp : (∀ ad, p.A = some ad → 0 < p.R.rows.length → ad.block < lo) ∧ (∀ ad, p.B = some ad → 0 < p.R.ents.length → ad.block < lo)) {A2 : Option Addr} (hA : ∀ ad, A2 = some ad → hi ≤ ad.block) : LowA lo hi (L ++ [p]) A2 := by
  refine ⟨fun ad e hn => .inr (hA ad e), fun q hq => ?_⟩
  rcases List.mem_append.1 hq with hq | hq
  · exact h.r q hq
  · obtain rfl := List.mem_singleton.1 hq
    exact hp
theorem PlA.far (h : PlA w a G slots last ss L A c) {lo hi g : Nat} {t : TypeId} {cs : Array Value} (hl : LowA lo hi L A) (h1 : lo ≤ g) (h2 : g < hi) (hf : Fr (only g) w w') (hg : Blk w g t cs) (ht1 : 141 ≠ t) (ht2 : 60 ≠ t) (ha : a < lo) (hG : G < lo) : PlA w' a G slots last ss L A c := by
  refine ⟨h.ar.beside hf hg ht1 ht2 (by omega) (by omega), h.ra.off hf (fun ad e hn => ?_) (fun p hp => ⟨fun ad e hn => ?_, fun ad e hn => ?_⟩), h.sim, h.ns, h.xg, h.offA, h.offR⟩
  · rcases hl.a ad e hn with h | h <;> omega
  · have := (hl.r p hp).1 ad e hn; omega
  · have := (hl.r p hp).2 ad e hn; omega
end
end Go.Proofs.YtfoljojacakkeaaDoor

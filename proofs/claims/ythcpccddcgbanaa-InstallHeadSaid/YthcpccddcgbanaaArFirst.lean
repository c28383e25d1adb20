/- What Alloc does in a fresh arena. -/
import Derived.Test.YthcpccddcgbanaaLd
import Derived.Test.YthcpccddcgbanaaIs
namespace Go.Proofs.Ythcpccddcgbanaa
open Go.RowKit
set_option maxRecDepth 100000
set_option linter.unusedVariables false

theorem AllocPost.first {w w' : World} {a G : Nat} {last : Int} {ss : List Sl} {R : Rc} {e : Ending} (h : AllocPost w a G last ss R e w') {i : Nat} {s : Sl} (hs : ss[i]? = some s) (hu : s.used = false) (hg : s.gen ≠ last) (hno : ∀ j t, j < i → ss[j]? = some t → t.used = true ∨ t.gen = last) :
    ∃ vr ve, e = .returned (.tuple #[.agg #[.int .i64 ((i : Int) + 1), .int .i64 (s.gen + 1)], .nilIface]) ∧ Ar w' a G last (ss.set i ⟨s.gen + 1, true, R, vr, ve⟩) ∧ RecOwn w' w.heap.size R vr ve ∧ Fr (only G) w w' := by
  rcases h with ⟨k, t, vr, ve, ht, ⟨h1, h2⟩, h3, he, hA, hO, hF⟩ | ⟨h1, _⟩
  · obtain rfl : k = i := by
      rcases Nat.lt_trichotomy k i with hl | hl | hl
      · rcases hno k t hl ht with h | h
        · rw [h1] at h; cases h
        · exact absurd h h2
      · exact hl
      · rcases h3 i s hl hs with h | h
        · rw [hu] at h; cases h
        · exact absurd h hg
    obtain rfl := Option.some.inj (hs.symm.trans ht)
    exact ⟨vr, ve, he, hA, hO, hF⟩
  · rcases h1 i s hs with h | h
    · rw [hu] at h; cases h
    · exact absurd h hg
theorem AllocPost.none {w w' : World} {a G : Nat} {last : Int} {ss : List Sl} {R : Rc} {e : Ending} (h : AllocPost w a G last ss R e w') (hno : ∀ (j : Nat) t, ss[j]? = some t → t.used = true ∨ t.gen = last) :
    e = .returned (.tuple #[.agg #[.int .i64 0, .int .i64 0], errV (allocErr ss)]) ∧ Fr none_ w w' := by
  rcases h with ⟨k, t, vr, ve, ht, ⟨h1, h2⟩, _⟩ | ⟨_, h2⟩
  · rcases hno k t ht with h | h
    · rw [h1] at h; cases h
    · exact absurd h h2
  · exact h2
abbrev kindR (n : Int) : Rc := ⟨n, nilS, nilS, false, 0, [], [], nilS, nilS, 0, 0, 0, nilS, 0, 0⟩
theorem reads_nilR (w : World) (n : Int) : RecReads w (kindR n) none none := ⟨⟨rfl, fun h => absurd h (Nat.lt_irrefl 0)⟩, ⟨rfl, fun h => absurd h (Nat.lt_irrefl 0)⟩⟩

end Go.Proofs.Ythcpccddcgbanaa

/- Errors as trees: a code, a fault round an error, two errors joined; as they lie in memory. -/
import Derived.Test.YtcfddlfeldidjaaDoorCode
import Derived.Test.YtcfddlfeldidjaaDoorMore
namespace Go.Proofs.YtcfddlfeldidjaaDoor
open Go.RowKit
set_option linter.unusedVariables false

inductive Er where
  | code (k : Int)
  | at_ (p : ByteArray) (s : Int) (e : Er)
  | join (a b : Er)
def Er.depth : Er → Nat
  | .code _ => 0
  | .at_ _ _ e => e.depth + 1
  | .join a b => max a.depth b.depth + 1
/-- The first code. -/
def Er.first : Er → Int
  | .code k => k
  | .at_ _ _ e => e.first
  | .join a _ => a.first
def Er.has (c : Int) : Er → Bool
  | .code k => k == c
  | .at_ _ _ e => e.has c
  | .join a b => a.has c || b.has c
/-- The first fault. -/
def Er.fault : Er → Option (ByteArray × Int)
  | .code _ => none
  | .at_ p s _ => some (p, s)
  | .join a b => match a.fault with | some x => some x | none => b.fault
abbrev fltV (b : Nat) : Value := .iface 50 (.pointer (some ⟨b, 0, none⟩))
abbrev joinV (b : Nat) : Value := .iface 58 (.pointer (some ⟨b, 0, none⟩))
def ErAt (w : World) : Er → Value → Prop
  | .code k, v => v = errV k
  | .at_ p s e, v => ∃ b ve, v = fltV b ∧ Blk w b 52 #[.string p, .int .i64 s, ve] ∧ ErAt w e ve
  | .join x y, v => ∃ b g c vx vy, v = joinV b ∧ Blk w b 60 #[.slice (some ⟨g, 0, none⟩) 2 c] ∧ Blk w g 31 #[vx, vy] ∧ ErAt w x vx ∧ ErAt w y vy
theorem ErAt.keepS {S : Nat → Prop} {w w' : World} (hf : Fr S w w') (hS : ∀ b t cs, Blk w b t cs → (t = 52 ∨ t = 60 ∨ t = 31) → ¬ S b) : ∀ {E : Er} {v : Value}, ErAt w E v → ErAt w' E v
  | .code k, v, h => h
  | .at_ p s e, v, h => by
    obtain ⟨b, ve, h1, h2, h3⟩ := h
    exact ⟨b, ve, h1, h2.fr hf (hS _ _ _ h2 (.inl rfl)), h3.keepS hf hS⟩
  | .join x y, v, h => by
    obtain ⟨b, g, c, vx, vy, h1, h2, h3, h4, h5⟩ := h
    exact ⟨b, g, c, vx, vy, h1, h2.fr hf (hS _ _ _ h2 (.inr (.inl rfl))), h3.fr hf (hS _ _ _ h3 (.inr (.inr rfl))), h4.keepS hf hS, h5.keepS hf hS⟩
theorem ErAt.keep {w w' : World} (hf : Fr none_ w w') {E : Er} {v : Value} (h : ErAt w E v) : ErAt w' E v := h.keepS hf (fun _ _ _ _ _ => id)
theorem ErAt.only {w w' : World} {g : Nat} {t : TypeId} {cs : Array Value} (hf : Fr (only g) w w') (hg : Blk w g t cs) (h1 : t ≠ 52) (h2 : t ≠ 60) (h3 : t ≠ 31) {E : Er} {v : Value} (h : ErAt w E v) : ErAt w' E v :=
  h.keepS hf (fun b t' cs' hb ht e => by
    have e' : b = g := e
    subst e'
    obtain ⟨e1, _⟩ := hb.uniq hg
    rcases ht with ht | ht | ht
    · exact h1 (e1.symm.trans ht)
    · exact h2 (e1.symm.trans ht)
    · exact h3 (e1.symm.trans ht))
/-- A chain of faults round a code. -/
def chE : List (ByteArray × Int) → Int → Er
  | [], k => .code k
  | x :: t, k => .at_ x.1 x.2 (chE t k)
theorem chE_first : ∀ (l : List (ByteArray × Int)) (k : Int), (chE l k).first = k
  | [], _ => rfl
  | x :: t, k => chE_first t k
theorem chE_has (c : Int) : ∀ (l : List (ByteArray × Int)) (k : Int), (chE l k).has c = (k == c)
  | [], _ => rfl
  | x :: t, k => chE_has c t k
theorem chE_fault : ∀ (l : List (ByteArray × Int)) (k : Int), (chE l k).fault = l.head?
  | [], _ => rfl
  | x :: t, k => rfl
theorem chE_depth : ∀ (l : List (ByteArray × Int)) (k : Int), (chE l k).depth = l.length
  | [], _ => rfl
  | x :: t, k => by simp [chE, Er.depth, chE_depth t k]
end Go.Proofs.YtcfddlfeldidjaaDoor

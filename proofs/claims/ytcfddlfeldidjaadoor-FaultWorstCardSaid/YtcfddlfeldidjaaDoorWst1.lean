/- The heaviest of errors, plain: a fold over what was made, and over the codes themselves. -/
import Derived.Test.YtcfddlfeldidjaaDoorAw1
import Derived.Test.YtcfddlfeldidjaaDoorWay1
namespace Go.Proofs.YtcfddlfeldidjaaDoor
open Go.RowKit Go.ChangeShapes Go.WideShapes
set_option maxRecDepth 100000
set_option linter.unusedVariables false

abbrev sX1 : ByteArray := ⟨#[120]⟩
def bst : Option (Int × Int) → Option (Int × Int) → Option (Int × Int)
  | o, none => o
  | none, some x => some x
  | some y, some x => if wtM y.2 < wtM x.2 then some x else some y
def best (X : List (Option (Int × Int))) : Option (Int × Int) := X.foldl bst none
theorem best_snoc (X : List (Option (Int × Int))) (x : Option (Int × Int)) : best (X ++ [x]) = bst (best X) x := by simp [best]
theorem best_take {X : List (Option (Int × Int))} {j : Nat} {x : Option (Int × Int)} (h : X[j]? = some x) : best (X.take (j + 1)) = bst (best (X.take j)) x := by
  rw [List.take_add_one, h]
  exact best_snoc _ _
theorem bst_none (o : Option (Int × Int)) : bst o none = o := by cases o <;> rfl
def codeAt (l : List Int) (j : Nat) : Int := l.getD j 0
theorem codeAt_get {l : List Int} {j : Nat} {c : Int} (h : l[j]? = some c) : codeAt l j = c := by simp [codeAt, h]
/-- What was made behind j rounds: nothing at `a`. -/
def allU (l : List Int) (a : Int) : Nat → List (Option (Int × Int))
  | 0 => []
  | j + 1 => (if (j : Int) = a then allU l a j ++ [none] else allU l a j) ++ [some ((j : Int), codeAt l j)]
def bestN (l : List Int) : Nat → Option (Int × Int)
  | 0 => none
  | j + 1 => bst (bestN l j) (some ((j : Int), codeAt l j))
theorem best_all (l : List Int) (a : Int) : ∀ j, best (allU l a j) = bestN l j
  | 0 => rfl
  | j + 1 => by
    unfold allU bestN
    rw [best_snoc]
    split
    · rw [best_snoc, bst_none, best_all l a j]
    · rw [best_all l a j]
theorem all_len (l : List Int) (a : Int) : ∀ j, (allU l a j).length ≤ 2 * j
  | 0 => by simp [allU]
  | j + 1 => by
    have := all_len l a j
    unfold allU
    split <;> simp <;> omega
theorem bestN_some (l : List Int) : ∀ j, 0 < j → ∃ (k : Nat), k < j ∧ bestN l j = some ((k : Int), codeAt l k) ∧ ∀ m, m < j → wtM (codeAt l m) ≤ wtM (codeAt l k)
  | 0, h => absurd h (by omega)
  | j + 1, _ => by
    rcases Nat.eq_zero_or_pos j with h0 | h0
    · subst h0
      exact ⟨0, by omega, rfl, fun m hm => by obtain rfl : m = 0 := by omega
                                              exact Int.le_refl _⟩
    · obtain ⟨k, hk, he, hm⟩ := bestN_some l j h0
      unfold bestN
      rw [he]
      by_cases hw : wtM (codeAt l k) < wtM (codeAt l j)
      · refine ⟨j, by omega, by show (if _ then _ else _) = _; rw [if_pos hw], fun m h => ?_⟩
        by_cases e : m = j
        · subst e; exact Int.le_refl _
        · have := hm m (by omega); omega
      · refine ⟨k, by omega, by show (if _ then _ else _) = _; rw [if_neg hw], fun m h => ?_⟩
        by_cases e : m = j
        · subst e; omega
        · exact hm m (by omega)
/-- Where the heaviest is; -1: nowhere. -/
def bestAt (l : List Int) (j : Nat) : Int := match bestN l j with | none => -1 | some x => x.1
theorem bestAt_zero (l : List Int) : bestAt l 0 = -1 := rfl
theorem bestAt_some {l : List Int} {j : Nat} (h : 0 < j) : ∃ k : Nat, k < j ∧ bestAt l j = (k : Int) ∧ bestN l j = some ((k : Int), codeAt l k) := by
  obtain ⟨k, hk, he, _⟩ := bestN_some l j h
  exact ⟨k, hk, by unfold bestAt; rw [he], he⟩
theorem bestAt_step {l : List Int} {j k : Nat} (hk : bestN l j = some ((k : Int), codeAt l k)) : bestAt l (j + 1) = if wtM (codeAt l k) < wtM (codeAt l j) then (j : Int) else (k : Int) := by
  unfold bestAt bestN
  rw [hk]
  by_cases hw : wtM (codeAt l k) < wtM (codeAt l j) <;> simp [bst, hw]
theorem bestAt_one (l : List Int) : bestAt l 1 = 0 := rfl
/-- An error that is one of them, or none. -/
def ErO (w : World) : Option (Int × Int) → Value → Prop
  | none, v => v = .nilIface
  | some x, v => ErAt w (.at_ sX1 x.1 (.code x.2)) v
theorem ErO.keepS {S : Nat → Prop} {w w' : World} (hf : Fr S w w') (hS : ∀ b t cs, Blk w b t cs → (t = 52 ∨ t = 60 ∨ t = 31) → ¬ S b) {o : Option (Int × Int)} {v : Value} (h : ErO w o v) : ErO w' o v := by
  cases o with
  | none => exact h
  | some x => exact ErAt.keepS hf hS h
theorem ErO.keep {w w' : World} (hf : Fr none_ w w') {o : Option (Int × Int)} {v : Value} (h : ErO w o v) : ErO w' o v := h.keepS hf (fun _ _ _ _ _ => id)
/-- Errors as they lie: values and what they are. -/
def EV (w : World) (X : List (Option (Int × Int))) (vs : List Value) : Prop := vs.length = X.length ∧ ∀ (k : Nat) (x : Option (Int × Int)), X[k]? = some x → ∃ v, vs[k]? = some v ∧ ErO w x v
theorem EV.keep {w w' : World} (hf : Fr none_ w w') {X : List (Option (Int × Int))} {vs : List Value} (h : EV w X vs) : EV w' X vs :=
  ⟨h.1, fun k x hx => by
    obtain ⟨v, h1, h2⟩ := h.2 k x hx
    exact ⟨v, h1, h2.keep hf⟩⟩
theorem EV.nil (w : World) : EV w [] [] := ⟨rfl, fun k x h => by simp at h⟩
theorem EV.snoc {w : World} {X : List (Option (Int × Int))} {vs : List Value} (h : EV w X vs) {x : Option (Int × Int)} {v : Value} (hx : ErO w x v) : EV w (X ++ [x]) (vs ++ [v]) := by
  refine ⟨by simp [h.1], fun k y hy => ?_⟩
  by_cases hk : k < X.length
  · rw [List.getElem?_append_left hk] at hy
    obtain ⟨u, h1, h2⟩ := h.2 k y hy
    exact ⟨u, by rw [List.getElem?_append_left (by rw [h.1]; exact hk)]; exact h1, h2⟩
  · have hl := (List.getElem?_eq_some_iff.1 hy).1
    simp at hl
    obtain rfl : k = X.length := by omega
    rw [List.getElem?_append_right (Nat.le_refl _)] at hy
    obtain rfl : x = y := by simpa using hy
    exact ⟨v, by rw [List.getElem?_append_right (by rw [h.1]; exact Nat.le_refl _)]; simp [h.1], hx⟩
end Go.Proofs.YtcfddlfeldidjaaDoor

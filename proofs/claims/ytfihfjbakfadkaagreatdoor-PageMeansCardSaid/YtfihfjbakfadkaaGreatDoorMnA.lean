/- Texts of one proof, merged: Base, Err, Cmp, Reads, More, Open, TypesR, Rec, Clone, RdAt, Qx, Vw, HeldT, Join. -/
import Derived.WalkKit
import Derived.Carry
import Derived.ProofKit
import Derived.SizedLaws
import Derived.LaidLaws
import Derived.LaidHandle
import Derived.Stop.Joined
import Derived.Deep.QuietTactic
import Derived.Deep.Slices
import Derived.Test.YtfihfjbakfadkaaGreatDoorProg
import Derived.WalkLawsBesides
import Derived.WalkSpells
import Derived.BigQuiet
import Derived.IntWalk
import Derived.Laws.OwnMore
import Derived.Deep.AppendLies
import Derived.Maps.AppendAt
import Derived.RegionTactic
import Derived.OwnWalk
import Derived.ChangeArms
import Derived.Deep.DeepCutAuto
import Derived.Deep.RegionHeld3
import Derived.OrdersHeld
namespace Go.Proofs.YtfihfjbakfadkaaGreatDoor
open Go.ChangeShapes Go.WideShapes Go.RowKit

/-- w' is w with new blocks; of the old blocks only those in S may have turned. -/
structure Fr (S : Nat → Prop) (w w' : World) : Prop where
  os : w'.os = w.os
  tape : w'.tape = w.tape
  output : w'.output = w.output
  size : w.heap.size ≤ w'.heap.size
  block : ∀ k, k < w.heap.size → ¬ S k → w'.heap[k]? = w.heap[k]?

theorem hid_ {p : Prop} (h : p) : Hid p := h

def none_ : Nat → Prop := fun _ => False

def only (g : Nat) : Nat → Prop := fun k => k = g
theorem only_ne {g k : Nat} (h : k ≠ g) : ¬ only g k := h

theorem Fr.refl (S : Nat → Prop) (w : World) : Fr S w w := ⟨rfl, rfl, rfl, Nat.le_refl _, fun _ _ _ => rfl⟩
theorem Fr.mono {S S' : Nat → Prop} {w w' : World} (h : Fr S w w') (hs : ∀ k, k < w.heap.size → S k → S' k) : Fr S' w w' :=
  ⟨h.os, h.tape, h.output, h.size, fun k hk hn => h.block k hk (fun e => hn (hs k hk e))⟩
theorem Fr.trans {S S' S'' : Nat → Prop} {a b c : World} (h : Fr S a b) (k : Fr S' b c) (h1 : ∀ i, i < a.heap.size → S i → S'' i) (h2 : ∀ i, i < a.heap.size → S' i → S'' i) : Fr S'' a c :=
  ⟨k.os.trans h.os, k.tape.trans h.tape, k.output.trans h.output, Nat.le_trans h.size k.size, fun i hi hn =>
    (k.block i (Nat.lt_of_lt_of_le hi h.size) (fun e => hn (h2 i hi e))).trans (h.block i hi (fun e => hn (h1 i hi e)))⟩
/-- A step that turned block g alone, which is new against the world behind h. -/
theorem Fr.then_only {S : Nat → Prop} {a b c : World} {g : Nat} (h : Fr S a b) (k : Fr (only g) b c) (hg : S g ∨ a.heap.size ≤ g) : Fr S a c :=
  h.trans k (fun _ _ => id) (fun i hi e => by
    obtain rfl : i = g := e
    rcases hg with hg | hg
    · exact hg
    · omega)
theorem Fr.then_none {S : Nat → Prop} {a b c : World} (h : Fr S a b) (k : Fr none_ b c) : Fr S a c := h.trans k (fun _ _ => id) (fun _ _ e => e.elim)
theorem Fr.drew {S : Nat → Prop} {a w : World} (h : Fr S a w) : Fr S a w.drew := ⟨h.os, h.tape, h.output, h.size, h.block⟩
theorem Fr.drewN {S : Nat → Prop} {a w : World} (h : Fr S a w) (n : Nat) : Fr S a (w.drewN n) := ⟨h.os, h.tape, h.output, h.size, h.block⟩
theorem Fr.alloc {S : Nat → Prop} {a w : World} (h : Fr S a w) (o : Obj) : Fr S a (w.alloc o) :=
  ⟨h.os, h.tape, h.output, Nat.le_trans h.size (by simp), fun k hk hn => (Below.heap_alloc w o k (Nat.lt_of_lt_of_le hk h.size)).trans (h.block k hk hn)⟩
theorem Fr.setCell {S : Nat → Prop} {a w : World} (h : Fr S a w) {p : Addr} (hp : S p.block ∨ a.heap.size ≤ p.block) (u : Value) : Fr S a (w.setCell p u) :=
  ⟨h.os, h.tape, h.output, by simpa [World.setCell] using h.size, fun k hk hn => (Below.heap_setCell w p u k (by
    rintro rfl
    rcases hp with hp | hp
    · exact hn hp
    · omega)).trans (h.block k hk hn)⟩
theorem Fr.grown {S : Nat → Prop} {a w w' : World} {row : Option Nat} (h : Fr S a w) (hg : w.grownBy w' row) (hr : ∀ k, row = some k → S k ∨ a.heap.size ≤ k) : Fr S a w' :=
  ⟨hg.os.trans h.os, hg.tape.trans h.tape, hg.output.trans h.output, Nat.le_trans h.size hg.size, fun k hk hn =>
    (hg.block k (Nat.lt_of_lt_of_le hk h.size) (fun e => by
      rcases hr k e.symm with h' | h'
      · exact hn h'
      · omega)).trans (h.block k hk hn)⟩
theorem Fr.below {S : Nat → Prop} {w w' : World} (h : Fr S w w') {B : Nat} (hB : B ≤ w.heap.size) (hs : ∀ k, S k → B ≤ k) : Below B w w' :=
  ⟨h.os, h.tape, h.output, h.size, fun k hk => h.block k (by omega) (fun e => by have := hs k e; omega)⟩
theorem Fr.below0 {w w' : World} (h : Fr none_ w w') : Below w.heap.size w w' := h.below (Nat.le_refl _) (fun _ e => e.elim)

/-- Block g holds just the cells cs, of element type t; none is frozen. -/
def Blk (w : World) (g : Nat) (t : TypeId) (cs : Array Value) : Prop := w.heap[g]? = some (.cells cs t (0, 0))

section
variable {w w' : World} {g : Nat} {t : TypeId} {cs : Array Value} {S : Nat → Prop}
theorem Blk.lt (h : Blk w g t cs) : g < w.heap.size := by
  rcases Nat.lt_or_ge g w.heap.size with hlt | hge
  · exact hlt
  · unfold Blk at h; rw [Array.getElem?_eq_none hge] at h; cases h
theorem Blk.cell (h : Blk w g t cs) (i : Nat) : w.cell? ⟨g, i, none⟩ = cs[i]? := cell_of_row w g i cs t (0, 0) h
theorem Blk.cell' (h : Blk w g t cs) {i : Nat} {v : Value} (hv : cs[i]? = some v) : w.cell? ⟨g, i, none⟩ = some v := (h.cell i).trans hv
theorem Blk.frozen (h : Blk w g t cs) (i : Nat) : w.frozen? ⟨g, i, none⟩ = false := by
  unfold Blk at h
  simp [World.frozen?, h]
theorem Blk.new (w : World) (t : TypeId) (cs : Array Value) : Blk (w.alloc (.cells cs t)) w.heap.size t cs := heap_alloc_new w _
theorem Blk.drew (h : Blk w g t cs) : Blk w.drew g t cs := h
theorem Blk.drewN (h : Blk w g t cs) (n : Nat) : Blk (w.drewN n) g t cs := h
theorem Blk.alloc (h : Blk w g t cs) (o : Obj) : Blk (w.alloc o) g t cs := (Below.heap_alloc w o g h.lt).trans h
theorem Blk.set_ (h : Blk w g t cs) (i : Nat) (u : Value) : Blk (w.setCell ⟨g, i, none⟩ u) g t (cs.setIfInBounds i u) := by
  unfold Blk at h ⊢
  simp [World.setCell, Array.getElem?_modify, h]
theorem Blk.far (h : Blk w g t cs) {p : Addr} (hp : g ≠ p.block) (u : Value) : Blk (w.setCell p u) g t cs := (Below.heap_setCell w p u g hp).trans h
theorem Blk.fr (h : Blk w g t cs) (hf : Fr S w w') (hg : ¬ S g) : Blk w' g t cs := (hf.block g h.lt hg).trans h
theorem Blk.below {B : Nat} (h : Blk w g t cs) (hb : Below B w w') (hg : g < B) : Blk w' g t cs := (hb.block g hg).trans h
theorem Blk.grown {row : Option Nat} (h : Blk w g t cs) (hb : w.grownBy w' row) (hg : some g ≠ row) : Blk w' g t cs := (hb.block g h.lt hg).trans h
theorem Blk.ne_ {g' : Nat} {t' : TypeId} {cs' : Array Value} (h : Blk w g t cs) (h' : Blk w g' t' cs') (hne : t ≠ t') : g ≠ g' := by
  rintro rfl
  unfold Blk at h h'
  rw [h] at h'
  injection h' with h'
  injection h' with _ ht
  exact hne ht
theorem Blk.uniq {t' : TypeId} {cs' : Array Value} (h : Blk w g t cs) (h' : Blk w g t' cs') : t = t' ∧ cs = cs' := by
  unfold Blk at h h'
  rw [h] at h'
  injection h' with h'
  injection h' with h1 h2
  exact ⟨h2, h1⟩
end

theorem _root_.Go.World.ownsRow.shape {w : World} {base : Nat} {e : TypeId} {size : Nat} {v : Value} {n : Nat} {xs : List Value} (h : w.ownsRow base e size v n xs) : ∃ A c, v = .slice A n c := by
  rcases h.2 with ⟨rfl, rfl⟩ | ⟨g, cap, cur, rfl, _⟩
  · exact ⟨_, _, rfl⟩
  · exact ⟨_, _, rfl⟩

section
variable {H : Type} {enc : TypeId × Value → H}

/-- All arguments read as they did. -/
theorem args_kept {P : Program} (hl : laidOutB P = true) {W W' : World} (hb : Below W.heap.size W W') : ∀ {ts : List TypeId} {vs : List Value} {ds : List (DataW H)} {ps : List MemPlace},
    (∀ t ∈ ts, P.readableRec t = true ∧ t < P.types.size) → DataW.TrodAll enc P W 0 (fun _ => true) true ts vs ds ps → (∀ x ∈ ps, x.block < W.heap.size) →
    DataW.TrodAll enc P W' 0 (fun b => decide (b < W.heap.size)) true ts vs ds ps
  | [], vs, ds, ps, _, h, _ => by
    obtain ⟨rfl, rfl, rfl⟩ := trodAll_nil h
    rfl
  | t :: ts, vs, ds, ps, hr, h, hlt => by
    obtain ⟨v, vs', d, ds', p, q, rfl, rfl, rfl, h1, h2⟩ := trodAll_cons h
    exact ⟨p, q, Below.trod hl (hr t (by simp)).1 (hr t (by simp)).2 h1 hb (fun x hx => hlt x (by simp [hx])), args_kept hl hb (fun t' ht' => hr t' (by simp [ht'])) h2 (fun x hx => hlt x (by simp [hx])), rfl⟩

/-- What a law's walk has to show: from any arguments that read as data, the call returns true and nothing of what was there turns. -/
def LawWalk (enc : TypeId × Value → H) (P : Program) (f : FuncId) (ts : List TypeId) (X : World → Prop) : Prop :=
  ∀ (W : World) (args : Array Value) (ds : List (DataW H)) (ps : List MemPlace) (base : Nat), DataW.TrodAll enc P W 0 (fun _ => true) true ts args.toList ds ps →
    (∀ (j : Nat) t v, ts[j]? = some t → args.toList[j]? = some v → Value.okWide P W .any base t v) → (∀ x ∈ ps, x.block < W.heap.size) →
    (DataW.weightsEach P ts ds).all (· ≤ reachBytes) = true → X W →
    Calls P f args W fun e W' => e = .returned (.bool true) ∧ Below W.heap.size W W'

theorem post_of_walk {P : Program} {fn : Func} {s : ChangeSpec} {apart handsOn : Bool} {tb : TypeId} (hl : laidOutB P = true) (hpar : (fn.params.toList.all fun t => P.readableRec t && decide (t < P.types.size)) = true)
    (hres : fn.resultTypes = #[tb]) (htb : P.underlying tb = some .bool) (hvars : s.vars = []) (hspec : ∀ ds : List (DataW H), ds.length = fn.params.toList.length → s.fn H (ds ++ []) = { results := [.lit (.bool true)], args := ds })
    {W W' : World} {args : Array Value} {ds gs : List (DataW H)} {before : List MemPlace} (hW : DataW.Whole enc P fn.params.toList s.vars apart W args.toList ds gs before) (hb : Below W.heap.size W W') :
    s.post enc P fn apart true handsOn false W args (.bool true) W' := by
  have hW' := hW
  obtain ⟨p, q, hA, hV, rfl, hfz, hnd⟩ := hW
  rw [hvars] at hV
  obtain ⟨rfl, rfl⟩ : gs = [] ∧ q = [] := by
    cases gs with
    | nil => exact ⟨rfl, hV⟩
    | cons g r => exact absurd hV (by intro h; cases h)
  have hlen : ds.length = fn.params.toList.length := by
    clear hpar hspec hfz hnd hW' hres hb
    generalize fn.params.toList = ts at hA
    generalize args.toList = vs at hA
    induction ts generalizing vs ds p with
    | nil => obtain ⟨rfl, rfl, rfl⟩ := trodAll_nil hA; rfl
    | cons t ts ih =>
      obtain ⟨v, vs', d, ds', p', q', rfl, rfl, rfl, h1, h2⟩ := trodAll_cons hA
      simp [ih _ _ h2]
  have hr : ∀ t ∈ fn.params.toList, P.readableRec t = true ∧ t < P.types.size := fun t ht => by
    have := List.all_eq_true.1 hpar t ht
    simpa using this
  have hlt : ∀ x ∈ p, x.block < W.heap.size := fun x hx => hW'.lt x (by simp [hx])
  have e := hspec ds hlen
  refine ⟨ds, [], _, [], p, [], hW', ?_, ?_, ?_, hb.frame _, fun h => by cases h⟩
  · rw [e, hres]
    exact trodAll_mk1 (shut_bool htb true)
  · rw [e]
    exact args_kept hl hb hr hA hlt
  · rw [e, hvars]
    rfl

theorem lift_laid {C : Checked} {os : Os} {f : FuncId} {fn : Func} {s : ChangeSpec} {apart handsOn : Bool} {tb : TypeId} {laid : List (String × DataW Unit)}
    (own : ownKnob C.prog.godebug = none) (started : os.Started) (noInit : C.prog.inits.idxOf? f = none) (hfn : C.prog.funcs[f]? = some fn)
    (hl : laidOutB C.prog = true) (hpar : (fn.params.toList.all fun t => C.prog.readableRec t && decide (t < C.prog.types.size)) = true)
    (hres : fn.resultTypes = #[tb]) (htb : C.prog.underlying tb = some .bool) (hvars : s.vars = []) (hspec : ∀ ds : List (DataW H), ds.length = fn.params.toList.length → s.fn H (ds ++ []) = { results := [.lit (.bool true)], args := ds })
    (witness : ∃ (w : World) (tape : Tape) (i : Input), w.os = os ∧ (w.forCall tape i).Shaped C.prog ∧ i.vars = [] ∧ Input.okWide C.prog (w.forCall tape i) .any w.heap.size f i ∧
      ((s.pre enc C.prog fn [] apart (w.forCall tape i).memory i.args ∧ laidMetH C.prog laid (w.forCall tape i).memory) ∧ sizedMet enc C.prog fn (OpenSpec.ofChange s) apart (w.forCall tape i).memory i.args) ∧ ({} : Assume).holds C.prog (lone (Frame.enter C.prog f i.args .normal) [] (w.forCall tape i)))
    (walk : LawWalk enc C.prog f fn.params.toList (fun W => laidMetH C.prog laid W)) :
    ReturnsInHanded {} C os f .any (fun w args => (s.pre enc C.prog fn [] apart w args ∧ laidMetH C.prog laid w) ∧ sizedMet enc C.prog fn (OpenSpec.ofChange s) apart w args) (s.post enc C.prog fn apart true handsOn false) := by
  refine returnsInHanded_of_change_and (X := fun w _ => laidMetH C.prog laid w) (fun _ _ _ hh h => h.of_heap hh) own started noInit hfn witness ?_
  intro W base args ds gs before hval hW _ hsz hL _
  have hW' := hW
  obtain ⟨p, q, hA, hV, rfl, hfz, hnd⟩ := hW
  rw [hvars] at hV
  obtain ⟨rfl, rfl⟩ : gs = [] ∧ q = [] := by
    cases gs with
    | nil => exact ⟨rfl, hV⟩
    | cons g r => exact absurd hV (by intro h; cases h)
  have hvt : s.plain.varTypes C.prog = [] := by simp [DataSpec.varTypes, ChangeSpec.plain, hvars]
  rw [hvt] at hsz
  simp only [List.append_nil] at hsz
  refine (walk W args ds p base hA (fun j t v ht hv => hval j t v (by simpa using ht) (by simpa using hv)) (fun x hx => hW'.lt x (by simp [hx])) hsz hL).mono fun e W' ⟨he, hb⟩ => ?_
  exact ⟨_, he, post_of_walk hl hpar hres htb hvars hspec hW' hb⟩
end
end Go.Proofs.YtfihfjbakfadkaaGreatDoor
namespace Go.Proofs.YtfihfjbakfadkaaGreatDoor
open Go.RowKit

abbrev errV (k : Int) : Value := .iface 49 (.int .i64 k)
end Go.Proofs.YtfihfjbakfadkaaGreatDoor
namespace Go.Proofs.YtfihfjbakfadkaaGreatDoor
open Go.RowKit
set_option maxRecDepth 100000
set_option linter.unusedVariables false

/-- Is one list of bytes ahead of another one? -/
def ltL : List UInt8 → List UInt8 → Bool
  | [], [] => false
  | [], _ :: _ => true
  | _ :: _, [] => false
  | a :: x, b :: y => decide (a.toNat < b.toNat) || (decide (a.toNat = b.toNat) && ltL x y)
theorem u8_eq {a b : UInt8} (h : a.toNat = b.toNat) : a = b := UInt8.toNat_inj.1 h
theorem ltL_cons {a b : UInt8} {x y : List UInt8} : ltL (a :: x) (b :: y) = true ↔ a.toNat < b.toNat ∨ a.toNat = b.toNat ∧ ltL x y = true := by
  simp [ltL]
theorem ltL_irrefl : ∀ x : List UInt8, ltL x x = false
  | [] => rfl
  | a :: x => by simp [ltL, ltL_irrefl x]
theorem ltL_trans : ∀ {x y z : List UInt8}, ltL x y = true → ltL y z = true → ltL x z = true
  | [], [], _, h, _ => by simp [ltL] at h
  | [], _ :: _, [], _, h => by simp [ltL] at h
  | [], _ :: _, _ :: _, _, _ => rfl
  | _ :: _, [], _, h, _ => by simp [ltL] at h
  | _ :: _, _ :: _, [], _, h => by simp [ltL] at h
  | a :: x, b :: y, c :: z, h, k => by
    rw [ltL_cons] at h k ⊢
    rcases h with h | ⟨h, h'⟩ <;> rcases k with k | ⟨k, k'⟩
    · left; omega
    · left; omega
    · left; omega
    · right; exact ⟨by omega, ltL_trans h' k'⟩
theorem ltL_total : ∀ (x y : List UInt8), ltL x y = true ∨ x = y ∨ ltL y x = true
  | [], [] => .inr (.inl rfl)
  | [], _ :: _ => .inl rfl
  | _ :: _, [] => .inr (.inr rfl)
  | a :: x, b :: y => by
    rw [ltL_cons, ltL_cons]
    rcases Nat.lt_trichotomy a.toNat b.toNat with h | h | h
    · exact .inl (.inl h)
    · rcases ltL_total x y with k | rfl | k
      · exact .inl (.inr ⟨h, k⟩)
      · exact .inr (.inl (by rw [u8_eq h]))
      · exact .inr (.inr (.inr ⟨h.symm, k⟩))
    · exact .inr (.inr (.inl h))
/-- How many bytes two lists begin with alike. -/
def cpL : List UInt8 → List UInt8 → Nat
  | a :: x, b :: y => if a = b then cpL x y + 1 else 0
  | _, _ => 0
theorem cpL_le : ∀ (x y : List UInt8), cpL x y ≤ x.length ∧ cpL x y ≤ y.length
  | [], _ => ⟨Nat.le_refl _, Nat.zero_le _⟩
  | _ :: _, [] => ⟨Nat.zero_le _, Nat.le_refl _⟩
  | a :: x, b :: y => by
    have := cpL_le x y
    rw [cpL]
    split <;> simp <;> omega
theorem cpL_in : ∀ {x y : List UInt8} {i : Nat}, i < cpL x y → x[i]? = y[i]?
  | [], _, i, h => by simp [cpL] at h
  | _ :: _, [], i, h => by simp [cpL] at h
  | a :: x, b :: y, i, h => by
    rw [cpL] at h
    split at h
    · rename_i e
      cases i with
      | zero => simp [e]
      | succ i => simpa using cpL_in (x := x) (y := y) (i := i) (by omega)
    · omega
theorem cpL_stop : ∀ {x y : List UInt8} {a b : UInt8}, x[cpL x y]? = some a → y[cpL x y]? = some b → a ≠ b
  | [], _, a, b, h, _ => by simp at h
  | _ :: _, [], a, b, _, h => by simp at h
  | c :: x, d :: y, a, b, h, k => by
    rw [cpL] at h k
    split at h
    · rename_i e
      rw [if_pos e] at k
      exact cpL_stop (x := x) (y := y) (by simpa using h) (by simpa using k)
    · rename_i e
      rw [if_neg e] at k
      have h1 : c = a := by simpa using h
      have h2 : d = b := by simpa using k
      rw [← h1, ← h2]; exact e
/-- A number that is as far as two lists are alike, and no farther, is that. -/
theorem cpL_is : ∀ {x y : List UInt8} {n : Nat}, (∀ i, i < n → x[i]? = y[i]?) → n ≤ x.length → n ≤ y.length → (n = x.length ∨ n = y.length ∨ ∃ a b, x[n]? = some a ∧ y[n]? = some b ∧ a ≠ b) → cpL x y = n
  | [], y, n, _, h1, _, _ => by
    obtain rfl : n = 0 := by simpa using h1
    simp [cpL]
  | _ :: _, [], n, _, _, h2, _ => by
    obtain rfl : n = 0 := by simpa using h2
    simp [cpL]
  | c :: x, d :: y, 0, _, _, _, h => by
    rcases h with h | h | ⟨a, b, h1, h2, h3⟩
    · simp at h
    · simp at h
    · have e1 : c = a := by simpa using h1
      have e2 : d = b := by simpa using h2
      rw [cpL, if_neg (by rw [e1, e2]; exact h3)]
  | c :: x, d :: y, n + 1, hi, h1, h2, h => by
    have e0 : c = d := by simpa using hi 0 (by omega)
    rw [cpL, if_pos e0]
    congr 1
    refine cpL_is (fun i hn => by simpa using hi (i + 1) (by omega)) (by simpa using h1) (by simpa using h2) ?_
    rcases h with h | h | ⟨a, b, h1, h2, h3⟩
    · exact .inl (by simpa using h)
    · exact .inr (.inl (by simpa using h))
    · exact .inr (.inr ⟨a, b, by simpa using h1, by simpa using h2, h3⟩)
theorem lt_of_end : ∀ {x y : List UInt8}, cpL x y = x.length → x.length < y.length → ltL x y = true
  | [], [], _, h => by simp at h
  | [], _ :: _, _, _ => rfl
  | _ :: _, [], _, h => by simp at h
  | a :: x, b :: y, h, hl => by
    rw [cpL] at h
    split at h
    · rename_i e
      rw [ltL_cons]
      right
      exact ⟨by rw [e], lt_of_end (by simpa using h) (by simpa using hl)⟩
    · simp at h
theorem cp_comm : ∀ x y : List UInt8, cpL x y = cpL y x
  | [], [] => rfl
  | [], _ :: _ => rfl
  | _ :: _, [] => rfl
  | a :: x, b :: y => by
    rw [cpL, cpL]
    by_cases h : a = b
    · rw [if_pos h, if_pos h.symm, cp_comm x y]
    · rw [if_neg h, if_neg (fun e => h e.symm)]
theorem lt_of_stop : ∀ {x y : List UInt8} {a b : UInt8}, x[cpL x y]? = some a → y[cpL x y]? = some b → a.toNat < b.toNat → ltL x y = true
  | [], _, a, b, h, _, _ => by simp at h
  | _ :: _, [], a, b, _, h, _ => by simp at h
  | c :: x, d :: y, a, b, h, k, l => by
    rw [ltL_cons]
    rw [cpL] at h k
    split at h
    · rename_i e
      rw [if_pos e] at k
      exact .inr ⟨by rw [e], lt_of_stop (by simpa using h) (by simpa using k) l⟩
    · rename_i e
      rw [if_neg e] at k
      have h1 : c = a := by simpa using h
      have h2 : d = b := by simpa using k
      rw [h1, h2]; exact .inl l
theorem eq_of_cp {x y : List UInt8} (h1 : cpL x y = x.length) (h2 : cpL x y = y.length) : x = y := by
  apply List.ext_getElem?
  intro i
  rcases Nat.lt_or_ge i (cpL x y) with h | h
  · exact cpL_in h
  · rw [List.getElem?_eq_none (by omega), List.getElem?_eq_none (by omega)]

def ltS (a b : ByteArray) : Bool := ltL a.data.toList b.data.toList
theorem ba_eq {a b : ByteArray} (h : a.data.toList = b.data.toList) : a = b := by
  cases a; cases b
  congr
  exact Array.toList_inj.1 h
theorem ltS_irrefl (a : ByteArray) : ltS a a = false := ltL_irrefl _
theorem ltS_trans {a b c : ByteArray} (h : ltS a b = true) (k : ltS b c = true) : ltS a c = true := ltL_trans h k
theorem ltS_total (a b : ByteArray) : ltS a b = true ∨ a = b ∨ ltS b a = true := by
  rcases ltL_total a.data.toList b.data.toList with h | h | h
  · exact .inl h
  · exact .inr (.inl (ba_eq h))
  · exact .inr (.inr h)
theorem ltS_asymm {a b : ByteArray} (h : ltS a b = true) : ltS b a = false := by
  cases h' : ltS b a with
  | false => rfl
  | true => have := ltS_trans h h'; rw [ltS_irrefl] at this; cases this
theorem ltS_ne {a b : ByteArray} (h : ltS a b = true) : a ≠ b := by rintro rfl; rw [ltS_irrefl] at h; cases h
theorem ba_toList (a : ByteArray) : a.toList = a.data.toList := ByteArray.toList_eq a
/-- Are two texts the same? As the walk spells it. -/
def sEq (a b : ByteArray) : Bool := a.toList == b.toList
theorem sEq_iff {a b : ByteArray} : sEq a b = true ↔ a = b := by
  unfold sEq
  rw [beq_iff_eq, ba_toList, ba_toList]
  exact ⟨ba_eq, fun h => by rw [h]⟩
theorem sEq_self (a : ByteArray) : sEq a a = true := sEq_iff.2 rfl
theorem sEq_ne {a b : ByteArray} (h : a ≠ b) : sEq a b = false := by
  cases e : sEq a b with
  | false => rfl
  | true => exact absurd (sEq_iff.1 e) h
def cmpI (a b : ByteArray) : Int := if ltS a b = true then -1 else if a = b then 0 else 1
theorem cmp_lt {a b : ByteArray} (h : ltS a b = true) : cmpI a b = -1 := if_pos h
theorem cmp_eq (a : ByteArray) : cmpI a a = 0 := by rw [cmpI, if_neg (by rw [ltS_irrefl]; decide), if_pos rfl]
theorem cmp_gt {a b : ByteArray} (h : ltS b a = true) : cmpI a b = 1 := by rw [cmpI, if_neg (by rw [ltS_asymm h]; decide), if_neg (fun e => ltS_ne h e.symm)]
theorem cmp_neg (a b : ByteArray) : decide (cmpI a b < 0) = ltS a b := by
  rcases ltS_total a b with h | rfl | h
  · rw [cmp_lt h, h]; rfl
  · rw [cmp_eq, ltS_irrefl]; rfl
  · rw [cmp_gt h, ltS_asymm h]; rfl
theorem cmp_le (a b : ByteArray) : decide (cmpI a b ≤ 0) = !ltS b a := by
  rcases ltS_total a b with h | rfl | h
  · rw [cmp_lt h, ltS_asymm h]; rfl
  · rw [cmp_eq, ltS_irrefl]; rfl
  · rw [cmp_gt h, h]; rfl
theorem cmp_ge (a b : ByteArray) : decide (0 ≤ cmpI a b) = !ltS a b := by
  rcases ltS_total a b with h | rfl | h
  · rw [cmp_lt h, h]; rfl
  · rw [cmp_eq, ltS_irrefl]; rfl
  · rw [cmp_gt h, ltS_asymm h]; rfl
def inS (low high : ByteArray) (unb : Bool) (key : ByteArray) : Bool := !ltS key low && (unb || ltS key high)

theorem ba_len (a : ByteArray) : a.data.toList.length = a.size := by simp
theorem ba_get {a : ByteArray} {i : Nat} (h : i < a.size) : a.data.toList[i]? = some a[i] := by
  rw [List.getElem?_eq_getElem (by rw [ba_len]; exact h)]
  rfl

theorem drewN_drewN (w : World) (a b : Nat) : (w.drewN a).drewN b = w.drewN (a + b) := by
  simp [World.drewN, Nat.add_assoc]
set_option maxHeartbeats 2000000 in
theorem common_ok (a b : ByteArray) (w : World) (ha : a.size ≤ 9000000000000000000) (hb : b.size ≤ 9000000000000000000) :
    Calls Tryz.prog 118 #[.string a, .string b] w fun e w' => e = .returned (.int .i64 (cpL a.data.toList b.data.toList : Nat)) ∧ ∃ n, w' = w.drewN n := by
  by_cases hmin : b.size < a.size
  · go_enter Tryz.func118, Tryz.ntmps118
    go_wp2
    go_loopw [5, 11] (fun n i wr => ∃ k : Nat, k ≤ b.size ∧ n = .int .i64 k ∧ i = .int .i64 k ∧ (∀ j, j < k → a.data.toList[j]? = b.data.toList[j]?) ∧ ∃ q, wr = w.drewN q) (fun _ i _ => b.size - (intOf i).toNat)
    case atStart => exact ⟨0, Nat.zero_le _, rfl, rfl, fun j hj => by omega, 0, rfl⟩
    case round =>
      obtain ⟨k, hk, rfl, rfl, hall, q, rfl⟩ := hrel
      have HA := hid_ hall
      clear hall
      by_cases hlt : k < b.size
      · have hka : k < a.size := by omega
        have hkb : k < b.size := by omega
        have hi0 : (0 : Int) ≤ (k : Int) := Int.natCast_nonneg _
        have hia : (k : Int) < (a.size : Int) := by omega
        have hib : (k : Int) < (b.size : Int) := by omega
        by_cases he : a[k] = b[k]
        · have hne : ((a[k].toNat : Int) != (b[k].toNat : Int)) = false := by rw [he]; simp
          have HS : Hid (∀ j, j < k + 1 → a.data.toList[j]? = b.data.toList[j]?) := hid_ (fun j hj => by
            rcases Nat.lt_succ_iff_lt_or_eq.1 hj with h | rfl
            · exact HA.out j h
            · rw [ba_get hka, ba_get hkb, he])
          clear he
          go_wp2_with fail
          go_quiet (fail)
          go_wp2_with fail
          go_roundw
          case rel => exact ⟨k + 1, by omega, by go_num, by go_num, HS.out, _, rfl⟩
          case measure => simp [intOf]; omega
        · have hne : ((a[k].toNat : Int) != (b[k].toNat : Int)) = true := by
            rw [bne_iff_ne]
            intro e
            exact he (u8_eq (by omega))
          have HE : Hid (cpL a.data.toList b.data.toList = k) := hid_ (cpL_is HA.out (by rw [ba_len]; omega) (by rw [ba_len]; omega) (.inr (.inr ⟨a[k], b[k], ba_get hka, ba_get hkb, he⟩)))
          clear he
          go_wp2_with fail
          go_quiet (fail)
          go_wp2_with fail
          go_ret
          refine ⟨by rw [HE.out]; rfl, ?_⟩
          first | exact ⟨_, rfl⟩ | exact ⟨_, drewN_drewN _ _ _⟩
      · obtain rfl : k = b.size := by omega
        have HE : Hid (cpL a.data.toList b.data.toList = b.size) := hid_ (cpL_is HA.out (by rw [ba_len]; omega) (by rw [ba_len]; omega) (by rw [ba_len, ba_len]; omega))
        go_wp2_with fail
        go_ret
        refine ⟨by rw [HE.out]; rfl, ?_⟩
        first | exact ⟨_, rfl⟩ | exact ⟨_, drewN_drewN _ _ _⟩
  · go_enter Tryz.func118, Tryz.ntmps118
    go_wp2
    go_loopw [5, 11] (fun n i wr => ∃ k : Nat, k ≤ a.size ∧ n = .int .i64 k ∧ i = .int .i64 k ∧ (∀ j, j < k → a.data.toList[j]? = b.data.toList[j]?) ∧ ∃ q, wr = w.drewN q) (fun _ i _ => a.size - (intOf i).toNat)
    case atStart => exact ⟨0, Nat.zero_le _, rfl, rfl, fun j hj => by omega, 0, rfl⟩
    case round =>
      obtain ⟨k, hk, rfl, rfl, hall, q, rfl⟩ := hrel
      have HA := hid_ hall
      clear hall
      by_cases hlt : k < a.size
      · have hka : k < a.size := by omega
        have hkb : k < b.size := by omega
        have hi0 : (0 : Int) ≤ (k : Int) := Int.natCast_nonneg _
        have hia : (k : Int) < (a.size : Int) := by omega
        have hib : (k : Int) < (b.size : Int) := by omega
        by_cases he : a[k] = b[k]
        · have hne : ((a[k].toNat : Int) != (b[k].toNat : Int)) = false := by rw [he]; simp
          have HS : Hid (∀ j, j < k + 1 → a.data.toList[j]? = b.data.toList[j]?) := hid_ (fun j hj => by
            rcases Nat.lt_succ_iff_lt_or_eq.1 hj with h | rfl
            · exact HA.out j h
            · rw [ba_get hka, ba_get hkb, he])
          clear he
          go_wp2_with fail
          go_quiet (fail)
          go_wp2_with fail
          go_roundw
          case rel => exact ⟨k + 1, by omega, by go_num, by go_num, HS.out, _, rfl⟩
          case measure => simp [intOf]; omega
        · have hne : ((a[k].toNat : Int) != (b[k].toNat : Int)) = true := by
            rw [bne_iff_ne]
            intro e
            exact he (u8_eq (by omega))
          have HE : Hid (cpL a.data.toList b.data.toList = k) := hid_ (cpL_is HA.out (by rw [ba_len]; omega) (by rw [ba_len]; omega) (.inr (.inr ⟨a[k], b[k], ba_get hka, ba_get hkb, he⟩)))
          clear he
          go_wp2_with fail
          go_quiet (fail)
          go_wp2_with fail
          go_ret
          refine ⟨by rw [HE.out]; rfl, ?_⟩
          first | exact ⟨_, rfl⟩ | exact ⟨_, drewN_drewN _ _ _⟩
      · obtain rfl : k = a.size := by omega
        have HE : Hid (cpL a.data.toList b.data.toList = a.size) := hid_ (cpL_is HA.out (by rw [ba_len]; omega) (by rw [ba_len]; omega) (by rw [ba_len, ba_len]; omega))
        go_wp2_with fail
        go_ret
        refine ⟨by rw [HE.out]; rfl, ?_⟩
        first | exact ⟨_, rfl⟩ | exact ⟨_, drewN_drewN _ _ _⟩

set_option maxHeartbeats 2000000 in
theorem compare_ok (a b : ByteArray) (w : World) (ha : a.size ≤ 9000000000000000000) (hb : b.size ≤ 9000000000000000000) :
    Calls Tryz.prog 85 #[.string a, .string b] w fun e w' => e = .returned (.int .i64 (cmpI a b)) ∧ ∃ n, w' = w.drewN n := by
  obtain ⟨n, hn⟩ : ∃ n, n = cpL a.data.toList b.data.toList := ⟨_, rfl⟩
  have hle := cpL_le a.data.toList b.data.toList
  rw [ba_len, ba_len, ← hn] at hle
  obtain ⟨hla, hlb⟩ := hle
  have HN := hid_ hn
  clear hn
  by_cases h1 : n = a.size
  · have hA : ((n : Int) == (a.size : Int)) = true := beq_iff_eq.2 (by omega)
    by_cases h2 : n = b.size
    · have hB : ((n : Int) == (b.size : Int)) = true := beq_iff_eq.2 (by omega)
      have he : a = b := ba_eq (eq_of_cp (by rw [ba_len, ← HN.out, h1]) (by rw [ba_len, ← HN.out, h2]))
      have HE : Hid (cmpI a b = 0) := hid_ (by rw [he]; exact cmp_eq b)
      clear h1 h2 he
      go_enter Tryz.func85, Tryz.ntmps85
      go_wp2_with fail
      refine (common_ok a b w ha hb).mono ?_
      rintro e w1 ⟨rfl, q, rfl⟩
      rw [← HN.out]
      go_wp2_with fail
      go_ret
      refine ⟨by rw [HE.out]; rfl, ?_⟩
      first | exact ⟨_, rfl⟩ | exact ⟨_, drewN_drewN _ _ _⟩
    · have hB : ((n : Int) == (b.size : Int)) = false := beq_eq_false_iff_ne.2 (by omega)
      have HE : Hid (cmpI a b = -1) := hid_ (cmp_lt (lt_of_end (by rw [ba_len, ← HN.out, h1]) (by rw [ba_len, ba_len]; omega)))
      clear h1 h2
      go_enter Tryz.func85, Tryz.ntmps85
      go_wp2_with fail
      refine (common_ok a b w ha hb).mono ?_
      rintro e w1 ⟨rfl, q, rfl⟩
      rw [← HN.out]
      go_wp2_with fail
      go_ret
      refine ⟨by rw [HE.out]; rfl, ?_⟩
      first | exact ⟨_, rfl⟩ | exact ⟨_, drewN_drewN _ _ _⟩
  · have hA : ((n : Int) == (a.size : Int)) = false := beq_eq_false_iff_ne.2 (by omega)
    by_cases h2 : n = b.size
    · have hB : ((n : Int) == (b.size : Int)) = true := beq_iff_eq.2 (by omega)
      have HE : Hid (cmpI a b = 1) := hid_ (cmp_gt (lt_of_end (by rw [cp_comm, ba_len, ← HN.out, h2]) (by rw [ba_len, ba_len]; omega)))
      clear h1 h2
      go_enter Tryz.func85, Tryz.ntmps85
      go_wp2_with fail
      refine (common_ok a b w ha hb).mono ?_
      rintro e w1 ⟨rfl, q, rfl⟩
      rw [← HN.out]
      go_wp2_with fail
      go_ret
      refine ⟨by rw [HE.out]; rfl, ?_⟩
      first | exact ⟨_, rfl⟩ | exact ⟨_, drewN_drewN _ _ _⟩
    · have hB : ((n : Int) == (b.size : Int)) = false := beq_eq_false_iff_ne.2 (by omega)
      have hka : n < a.size := by omega
      have hkb : n < b.size := by omega
      have hi0 : (0 : Int) ≤ (n : Int) := Int.natCast_nonneg _
      have hia : (n : Int) < (a.size : Int) := by omega
      have hib : (n : Int) < (b.size : Int) := by omega
      have ga : a.data.toList[cpL a.data.toList b.data.toList]? = some a[n] := by rw [← HN.out]; exact ba_get hka
      have gb : b.data.toList[cpL a.data.toList b.data.toList]? = some b[n] := by rw [← HN.out]; exact ba_get hkb
      have hst := cpL_stop ga gb
      by_cases h3 : a[n].toNat < b[n].toNat
      · have hC : decide (a[n].toNat < b[n].toNat) = true := decide_eq_true h3
        have HE : Hid (cmpI a b = -1) := hid_ (cmp_lt (lt_of_stop ga gb h3))
        clear h1 h2 h3 ga gb hst
        go_enter Tryz.func85, Tryz.ntmps85
        go_wp2_with fail
        refine (common_ok a b w ha hb).mono ?_
        rintro e w1 ⟨rfl, q, rfl⟩
        rw [← HN.out]
        go_wp2_with fail
        go_quiet (fail)
        go_wp2_with fail
        go_ret
        refine ⟨by rw [HE.out]; rfl, ?_⟩
        first | exact ⟨_, rfl⟩ | exact ⟨_, drewN_drewN _ _ _⟩
      · have hC : decide (a[n].toNat < b[n].toNat) = false := decide_eq_false h3
        have hgt : b[n].toNat < a[n].toNat := by
          rcases Nat.lt_trichotomy a[n].toNat b[n].toNat with h | h | h
          · exact absurd h h3
          · exact absurd (u8_eq h) hst
          · exact h
        rw [cp_comm] at ga gb
        have HE : Hid (cmpI a b = 1) := hid_ (cmp_gt (lt_of_stop gb ga hgt))
        clear h1 h2 h3 ga gb hst hgt
        go_enter Tryz.func85, Tryz.ntmps85
        go_wp2_with fail
        refine (common_ok a b w ha hb).mono ?_
        rintro e w1 ⟨rfl, q, rfl⟩
        rw [← HN.out]
        go_wp2_with fail
        go_quiet (fail)
        go_wp2_with fail
        go_ret
        refine ⟨by rw [HE.out]; rfl, ?_⟩
        first | exact ⟨_, rfl⟩ | exact ⟨_, drewN_drewN _ _ _⟩

set_option maxHeartbeats 2000000 in
theorem in_ok (low high : ByteArray) (unb : Bool) (key : ByteArray) (w : World) (h1 : low.size ≤ 9000000000000000000) (h2 : high.size ≤ 9000000000000000000) (h3 : key.size ≤ 9000000000000000000) :
    Calls Tryz.prog 40 #[.string low, .string high, .bool unb, .string key] w fun e w' => e = .returned (.bool (inS low high unb key)) ∧ ∃ n, w' = w.drewN n := by
  have ca := cmp_le low key
  have cb := cmp_neg key high
  cases ha : ltS key low with
  | true =>
    have hr : Hid (inS low high unb key = false) := hid_ (by simp [inS, ha])
    rw [ha] at ca
    have ca' : decide (cmpI low key ≤ 0) = false := ca
    clear ca cb ha
    go_enter Tryz.func40, Tryz.ntmps40
    go_wp2_with fail
    refine (compare_ok low key w h1 h3).mono ?_
    rintro e w1 ⟨rfl, q, rfl⟩
    go_wp2_with fail
    go_ret
    refine ⟨by rw [hr.out]; rfl, ?_⟩
    first | exact ⟨_, rfl⟩ | exact ⟨_, drewN_drewN _ _ _⟩
  | false =>
    rw [ha] at ca
    have ca' : decide (cmpI low key ≤ 0) = true := ca
    cases unb with
    | true =>
      have hr : Hid (inS low high true key = true) := hid_ (by simp [inS, ha])
      clear ca cb ha
      go_enter Tryz.func40, Tryz.ntmps40
      go_wp2_with fail
      refine (compare_ok low key w h1 h3).mono ?_
      rintro e w1 ⟨rfl, q, rfl⟩
      go_wp2_with fail
      go_ret
      refine ⟨by rw [hr.out]; rfl, ?_⟩
      first | exact ⟨_, rfl⟩ | exact ⟨_, drewN_drewN _ _ _⟩
    | false =>
      have hr : Hid (inS low high false key = ltS key high) := hid_ (by simp [inS, ha])
      have CB := hid_ cb
      clear ca cb ha
      go_enter Tryz.func40, Tryz.ntmps40
      go_wp2_with fail
      refine (compare_ok low key w h1 h3).mono ?_
      rintro e w1 ⟨rfl, q, rfl⟩
      go_wp2_with fail
      refine (compare_ok key high _ h3 h2).mono ?_
      rintro e w1 ⟨rfl, q2, rfl⟩
      go_wp2_with fail
      go_ret
      refine ⟨by rw [hr.out, ← CB.out]; rfl, ?_⟩
      first | exact ⟨_, rfl⟩ | exact ⟨_, drewN_drewN _ _ _⟩
end Go.Proofs.YtfihfjbakfadkaaGreatDoor
namespace Go.Proofs.YtfihfjbakfadkaaGreatDoor
open Go.RowKit
set_option linter.unusedVariables false

theorem block_of_add (a : Addr) (n : Nat) : (a.add n).block = a.block := by unfold Addr.add; split <;> rfl
theorem add_of_add (a : Addr) (i j : Nat) : (a.add i).add j = a.add (i + j) := by
  unfold Addr.add
  by_cases hi : i = 0 <;> by_cases hj : j = 0 <;> simp [hi, hj, Nat.add_assoc]
theorem add_lit (b off j : Nat) : (⟨b, off, none⟩ : Addr).add j = ⟨b, off + j, none⟩ := by
  unfold Addr.add
  split <;> simp_all

/-- The slice (A, n) holds the cells xs. -/
def Reads (w : World) (size : Nat) (A : Option Addr) (n : Nat) (xs : List Value) : Prop :=
  xs.length = n * size ∧ (0 < n → ∃ ad, A = some ad ∧ ∀ j u, xs[j]? = some u → w.cell? (ad.add j) = some u)

section
variable {w w' : World} {size n : Nat} {A : Option Addr} {xs : List Value}
theorem Reads.nil_ : Reads w size A 0 [] := ⟨by simp, fun h => absurd h (by omega)⟩
theorem Reads.cut (h : Reads w size A n xs) {k cap : Nat} (hk : k ≤ n) (hc : n ≤ cap) :
    Reads w size (if cap = k then A else A.map (·.add (k * size))) (n - k) (xs.drop (k * size)) := by
  refine ⟨by rw [List.length_drop, h.1, Nat.sub_mul], fun hn => ?_⟩
  obtain ⟨ad, rfl, hcell⟩ := h.2 (by omega)
  rw [if_neg (by omega)]
  refine ⟨ad.add (k * size), rfl, fun j u hu => ?_⟩
  rw [add_of_add]
  exact hcell _ u (by rw [← hu, List.getElem?_drop])
theorem Reads.upto (h : Reads w size A n xs) {k : Nat} (hk : k ≤ n) : Reads w size A k (xs.take (k * size)) := by
  have hm : k * size ≤ n * size := Nat.mul_le_mul_right _ hk
  refine ⟨by rw [List.length_take, h.1]; omega, fun hn => ?_⟩
  obtain ⟨ad, rfl, hcell⟩ := h.2 (by omega)
  refine ⟨ad, rfl, fun j u hu => hcell j u ?_⟩
  rw [List.getElem?_take] at hu
  split at hu
  · exact hu
  · cases hu
theorem Reads.of_own {base : Nat} {e : TypeId} {c : Nat} (h : w.ownsRow base e size (.slice A n c) n xs) : Reads w size A n xs := by
  refine ⟨h.1, fun hn => ?_⟩
  obtain ⟨g, cap, hv, _, hlt⟩ := h.form hn
  have hA : A = some ⟨g, 0, none⟩ := by injection hv
  subst hA
  exact ⟨_, rfl, h.cells (g := g) rfl⟩
/-- Kept where old cells read as they did. -/
theorem Reads.fr {S : Nat → Prop} (h : Reads w size A n xs) (hf : Fr S w w') (hS : ∀ ad, A = some ad → ¬ S ad.block) : Reads w' size A n xs :=
  ⟨h.1, fun hn => by
    obtain ⟨ad, e, hc⟩ := h.2 hn
    refine ⟨ad, e, fun j u hu => ?_⟩
    have h1 := hc j u hu
    have hlt := World.block_lt_of_cell? w _ h1
    exact (World.cell?_of_block (hf.block _ hlt (by rw [block_of_add]; exact hS ad e))).trans h1⟩
theorem Reads.none_fr (h : Reads w size A n xs) (hf : Fr none_ w w') : Reads w' size A n xs := h.fr hf (fun _ _ => id)
theorem Reads.drew (h : Reads w size A n xs) : Reads w.drew size A n xs := h
theorem Reads.alloc (h : Reads w size A n xs) (o : Obj) : Reads (w.alloc o) size A n xs := h.none_fr ((Fr.refl none_ w).alloc o)
end

theorem own_empty (w : World) (t : TypeId) (size : Nat) (base : Nat) (hb : base ≤ w.heap.size) : (w.alloc (.cells #[] t)).ownsRow base t size (.slice (some ⟨w.heap.size, 0, none⟩) 0 0) 0 [] :=
  World.ownsRow_made w #[] 0 hb (by simp) (by simp)

theorem own_empty_at (w : World) (t : TypeId) (size : Nat) (base b : Nat) (hb : base ≤ w.heap.size) (e : b = w.heap.size) : (w.alloc (.cells #[] t)).ownsRow base t size (.slice (some ⟨b, 0, none⟩) 0 0) 0 [] := by
  subst e
  exact own_empty w t size base hb

/-- A block that was just laid reads as a slice of one element. -/
theorem reads_new (w : World) (t : TypeId) (cs : List Value) (b : Nat) (e : b = w.heap.size) : Reads (w.alloc (.cells cs.toArray t)) cs.length (some ⟨b, 0, none⟩) 1 cs := by
  subst e
  refine ⟨by simp, fun _ => ⟨_, rfl, fun j u hu => ?_⟩⟩
  rw [add_lit, Nat.zero_add]
  exact (Blk.new w t cs.toArray).cell' (by simpa using hu)

/-- A row of the call's own, kept by whatever leaves its block alone. -/
theorem own_fr {w w' : World} {base : Nat} {e : TypeId} {size : Nat} {v : Value} {n : Nat} {xs : List Value} {S : Nat → Prop} (h : w.ownsRow base e size v n xs) (hf : Fr S w w') (hS : ∀ k, v.ownBlock = some k → ¬ S k) : w'.ownsRow base e size v n xs := by
  refine ⟨h.1, ?_⟩
  rcases h.2 with hn | ⟨g, cap, cur, rfl, hb, hh, rest⟩
  · exact .inl hn
  · exact .inr ⟨g, cap, cur, rfl, hb, (hf.block g (Array.getElem?_eq_some_iff.1 hh).1 (hS g rfl)).trans hh, rest⟩
theorem own_none {w w' : World} {base : Nat} {e : TypeId} {size : Nat} {v : Value} {n : Nat} {xs : List Value} (h : w.ownsRow base e size v n xs) (hf : Fr none_ w w') : w'.ownsRow base e size v n xs := own_fr h hf (fun _ _ => id)
theorem own_base {w : World} {base base' : Nat} {e : TypeId} {size : Nat} {v : Value} {n : Nat} {xs : List Value} (h : w.ownsRow base e size v n xs) (hb : base' ≤ base) : w.ownsRow base' e size v n xs := by
  refine ⟨h.1, ?_⟩
  rcases h.2 with hn | ⟨g, cap, cur, rfl, hb', rest⟩
  · exact .inl hn
  · exact .inr ⟨g, cap, cur, rfl, by omega, rest⟩
theorem own_blk_ne {w : World} {base : Nat} {e : TypeId} {size n : Nat} {v : Value} {xs : List Value} (h : w.ownsRow base e size v n xs) {g : Nat} {t : TypeId} {cs : Array Value} (hg : Blk w g t cs) (hne : e ≠ t) : v.ownBlock ≠ some g := by
  rcases h.2 with ⟨rfl, _⟩ | ⟨g', cap, cur, rfl, _, hh, _⟩
  · simp [Value.ownBlock]
  · intro he
    have : g' = g := by simpa [Value.ownBlock] using he
    subst this
    exact Blk.ne_ (t := e) hh hg hne rfl
theorem own_own_ne {w : World} {base base' : Nat} {e e' : TypeId} {size size' n n' : Nat} {v v' : Value} {xs xs' : List Value} (h : w.ownsRow base e size v n xs) (h' : w.ownsRow base' e' size' v' n' xs') (hne : e ≠ e') (k : Nat) (hk : v.ownBlock = some k) : ¬ v'.ownBlock = some k := by
  rcases h.2 with ⟨rfl, _⟩ | ⟨g, cap, cur, rfl, _, hh, _⟩
  · simp [Value.ownBlock] at hk
  · obtain rfl : g = k := by simpa [Value.ownBlock] using hk
    exact own_blk_ne h' (g := g) (t := e) (cs := cur) hh (Ne.symm hne)
/-- The parts of an owned row: its form, its cells. -/
theorem own_parts {w : World} {base : Nat} {e : TypeId} {size n : Nat} {v : Value} {xs : List Value} (h : w.ownsRow base e size v n xs) :
    ∃ A c, v = .slice A n c ∧ n ≤ c ∧ c ≤ maxLen ∧ (0 < n → ∃ g, A = some ⟨g, 0, none⟩ ∧ g < w.heap.size ∧ ∀ j u, xs[j]? = some u → w.cell? ⟨g, j, none⟩ = some u) := by
  have hR := h
  rcases h.2 with ⟨rfl, rfl⟩ | ⟨g, cap, cur, rfl, hb, hh, hc, hm, hs, ht⟩
  · exact ⟨none, 0, rfl, Nat.le_refl _, by simp, fun h => absurd h (by omega)⟩
  · refine ⟨_, _, rfl, hc, hm, fun _ => ⟨g, rfl, (Array.getElem?_eq_some_iff.1 hh).1, fun j u hu => ?_⟩⟩
    have := hR.cells (g := g) rfl j u hu
    rwa [add_lit, Nat.zero_add] at this

section
variable {P : Program} (w : World)
theorem run_append_of_nil (base : Nat) (t ty e : TypeId) (i : TypeInfo) (size : Nat) (ht : P.underlying t = some (.slice e)) (hi : P.info? e = some i)
    (v : Value) (n : Nat) (xs : List Value) (hown : w.ownsRow base e size v n xs) (c : Nat) : (Builtin.append_ #[t, t] ty #[v, .slice none 0 c]).run P w = .ok v w := by
  rcases hown.2 with ⟨rfl, rfl⟩ | ⟨g, cap, cur, rfl, _, _, hnc, _⟩
  · simp [Builtin.append_, run_underlying ht, sizeOf, typeInfo, hi, Builtin.lenOf, Builtin.firstCells]
  · simp [Builtin.append_, run_underlying ht, sizeOf, typeInfo, hi, Builtin.lenOf, Builtin.firstCells, hnc, storeCells]

theorem run_append_any (base : Nat) (t ty e : TypeId) (i : TypeInfo) (z : Value) (size bytes : Nat) (ht : P.underlying t = some (.slice e)) (hi : P.info? e = some i) (hz : i.zero = some z)
    (hsize : i.size = size) (hby : i.bytes = bytes) (hzs : z.cells.size = size) (hsz : 0 < size)
    (v : Value) (n : Nat) (xs : List Value) (hown : w.ownsRow base e size v n xs)
    (A : Option Addr) (m c : Nat) (news : List Value) (hr : Reads w size A m news) (h1 : ∀ u ∈ news, u.oneCell' = true)
    (h63 : n + m ≤ maxLen) (hbytes : (n + m) * bytes ≤ 140737488355328) (hbase : base ≤ w.heap.size) :
    ∃ v' w', (Builtin.append_ #[t, t] ty #[v, .slice A m c]).run P w = .ok v' w' ∧ w'.ownsRow base e size v' (n + m) (xs ++ news) ∧ w.grownBy w' v.ownBlock ∧
      (v'.ownBlock = v.ownBlock ∨ v'.ownBlock = some w.heap.size) := by
  rcases A with _ | ad
  · have hm : m = 0 := by
      rcases Nat.eq_zero_or_pos m with h0 | h0
      · exact h0
      · obtain ⟨ad, h, _⟩ := hr.2 h0
        cases h
    subst hm
    have hn : news = [] := List.eq_nil_of_length_eq_zero (by simpa using hr.1)
    subst hn
    exact ⟨v, w, run_append_of_nil w base t ty e i size ht hi v n xs hown c, by simpa using hown, World.grownBy.refl w _, .inl rfl⟩
  · have hcells : ∀ j u, news[j]? = some u → w.cell? (ad.add j) = some u := by
      intro j u hu
      rcases Nat.eq_zero_or_pos m with h0 | h0
      · subst h0
        have hn : news = [] := List.eq_nil_of_length_eq_zero (by simpa using hr.1)
        subst hn
        simp at hu
      · obtain ⟨ad', h, hc⟩ := hr.2 h0
        injection h with h
        subst h
        exact hc j u hu
    obtain ⟨v', w', hrun, h2, h3, _, h5⟩ := run_append_own_at (P := P) w base t ty e i z size bytes ht hi hz hsize hby hzs hsz v n xs hown ad m c news hr.1 hcells h1 h63 hbytes hbase
    exact ⟨v', w', hrun, h2, h3, h5⟩

theorem wp_append_any {o : Oper} {a : Act} {K : Act → World → Prop} {Q : Exit → Act → World → Prop} (s x : Operand) (t : TypeId)
    (ho : o.op = .call { callee := .builtin .append, args := #[s, x], argTypes := #[t, t] })
    (base : Nat) (e : TypeId) (i : TypeInfo) (z : Value) (size bytes : Nat) (ht : P.underlying t = some (.slice e)) (hi : P.info? e = some i) (hz : i.zero = some z)
    (hsize : i.size = size) (hby : i.bytes = bytes) (hzs : z.cells.size = size) (hsz : 0 < size)
    (v : Value) (n : Nat) (xs : List Value) (hs : a.eval s = v) (hown : w.ownsRow base e size v n xs)
    (A : Option Addr) (m c : Nat) (news : List Value) (hx : a.eval x = .slice A m c) (hr : Reads w size A m news) (h1 : ∀ u ∈ news, u.oneCell' = true)
    (h63 : n + m ≤ maxLen) (hbytes : (n + m) * bytes ≤ 140737488355328) (hbase : base ≤ w.heap.size)
    (h : ∀ A' c' w', w'.ownsRow base e size (.slice A' (n + m) c') (n + m) (xs ++ news) → w.grownBy w' v.ownBlock → K (a.put o.dst (.slice A' (n + m) c')) w') : o.wp P a w K Q := by
  obtain ⟨v', w', hrun, h2, h3, h4⟩ := run_append_any (P := P) w base t o.type e i z size bytes ht hi hz hsize hby hzs hsz v n xs hown A m c news hr h1 h63 hbytes hbase
  obtain ⟨A', c', rfl⟩ := h2.shape
  unfold Oper.wp execOp
  simp only [ho, resolve, invoke, builtin, Sem.run_bind, Sem.run_pure, Result.andThen_ok, List.map_toArray, List.map_cons, List.map_nil, hs, hx, hrun]
  exact h A' c' w' h2 h3

theorem wpList_append_any {ops : Array Oper} {rest : List Oper} {o : Oper} {a : Act} {Q : Exit → Act → World → Prop} (hgd : o.guard = none) (s x : Operand) (t : TypeId)
    (ho : o.op = .call { callee := .builtin .append, args := #[s, x], argTypes := #[t, t] })
    (base : Nat) (e : TypeId) (i : TypeInfo) (z : Value) (size bytes : Nat) (ht : P.underlying t = some (.slice e)) (hi : P.info? e = some i) (hz : i.zero = some z)
    (hsize : i.size = size) (hby : i.bytes = bytes) (hzs : z.cells.size = size) (hsz : 0 < size)
    (v : Value) (n : Nat) (xs : List Value) (hs : a.eval s = v) (hown : w.ownsRow base e size v n xs)
    (A : Option Addr) (m c : Nat) (news : List Value) (hx : a.eval x = .slice A m c) (hr : Reads w size A m news) (h1 : ∀ u ∈ news, u.oneCell' = true)
    (h63 : n + m ≤ maxLen) (hbytes : (n + m) * bytes ≤ 140737488355328) (hbase : base ≤ w.heap.size)
    (h : ∀ A' c' w', w'.ownsRow base e size (.slice A' (n + m) c') (n + m) (xs ++ news) → w.grownBy w' v.ownBlock → wpList P ops Q rest (a.put o.dst (.slice A' (n + m) c')) w') : wpList P ops Q (o :: rest) a w :=
  wpList_plain hgd fun _ hK => wp_append_any w s x t ho base e i z size bytes ht hi hz hsize hby hzs hsz v n xs hs hown A m c news hx hr h1 h63 hbytes hbase fun A' c' w' h2 h3 => hK _ _ (h A' c' w' h2 h3)

end
end Go.Proofs.YtfihfjbakfadkaaGreatDoor
namespace Go.Proofs.YtfihfjbakfadkaaGreatDoor
open Go.RowKit
set_option linter.unusedVariables false

theorem Fr.toOnly {a w : World} {p : Addr} (h : Fr none_ a w) (u : Value) : Fr (only p.block) a (w.setCell p u) :=
  (h.mono (S' := only p.block) (fun _ _ e => e.elim)).setCell (p := p) (.inl (Eq.refl _)) u
theorem Fr.only1 (w : World) (p : Addr) (u : Value) : Fr (only p.block) w (w.setCell p u) := (Fr.refl none_ w).toOnly u
theorem cellFr {w w' : World} {p : Addr} {v : Value} (h : w.cell? p = some v) (hf : Fr none_ w w') : w'.cell? p = some v :=
  (World.cell?_of_block (hf.block _ (World.block_lt_of_cell? w _ h) id)).trans h
theorem cellFrS {S : Nat → Prop} {w w' : World} {p : Addr} {v : Value} (h : w.cell? p = some v) (hf : Fr S w w') (hS : ¬ S p.block) : w'.cell? p = some v :=
  (World.cell?_of_block (hf.block _ (World.block_lt_of_cell? w _ h) hS)).trans h

theorem choose_list {α : Type} {P : Nat → α → Prop} : ∀ (n : Nat), (∀ k, k < n → ∃ x, P k x) → ∃ L : List α, L.length = n ∧ ∀ k x, L[k]? = some x → P k x
  | 0, _ => ⟨[], rfl, fun k x h => by simp at h⟩
  | n + 1, h => by
    obtain ⟨L, hl, hL⟩ := choose_list n (fun k hk => h k (by omega))
    obtain ⟨x, hx⟩ := h n (by omega)
    refine ⟨L ++ [x], by simp [hl], fun k y hy => ?_⟩
    rcases Nat.lt_or_ge k L.length with h1 | h1
    · rw [List.getElem?_append_left h1] at hy; exact hL k y hy
    · rw [List.getElem?_append_right h1] at hy
      have : k - L.length = 0 := by
        rcases Nat.eq_zero_or_pos (k - L.length) with h2 | h2
        · exact h2
        · rw [List.getElem?_eq_none (by simp; omega)] at hy; cases hy
      rw [this] at hy
      obtain rfl : x = y := by simpa using hy
      obtain rfl : k = n := by omega
      exact hx
section
variable {P : Program} (w : World)
/-- append, at the operation, with where the new row lies. -/
theorem wp_append_at {o : Oper} {a : Act} {K : Act → World → Prop} {Q : Exit → Act → World → Prop} (s x : Operand) (t : TypeId)
    (ho : o.op = .call { callee := .builtin .append, args := #[s, x], argTypes := #[t, t] })
    (base : Nat) (e : TypeId) (i : TypeInfo) (z : Value) (size bytes : Nat) (ht : P.underlying t = some (.slice e)) (hi : P.info? e = some i) (hz : i.zero = some z)
    (hsize : i.size = size) (hby : i.bytes = bytes) (hzs : z.cells.size = size) (hsz : 0 < size)
    (v : Value) (n : Nat) (xs : List Value) (hs : a.eval s = v) (hown : w.ownsRow base e size v n xs)
    (A : Option Addr) (m c : Nat) (news : List Value) (hx : a.eval x = .slice A m c) (hr : Reads w size A m news) (h1 : ∀ u ∈ news, u.oneCell' = true)
    (h63 : n + m ≤ maxLen) (hbytes : (n + m) * bytes ≤ 140737488355328) (hbase : base ≤ w.heap.size)
    (h : ∀ v' w', w'.ownsRow base e size v' (n + m) (xs ++ news) → w.grownBy w' v.ownBlock → (v'.ownBlock = v.ownBlock ∨ v'.ownBlock = some w.heap.size) → K (a.put o.dst v') w') : o.wp P a w K Q := by
  obtain ⟨v', w', hrun, h2, h3, h4⟩ := run_append_any (P := P) w base t o.type e i z size bytes ht hi hz hsize hby hzs hsz v n xs hown A m c news hr h1 h63 hbytes hbase
  unfold Oper.wp execOp
  simp only [ho, resolve, invoke, builtin, Sem.run_bind, Sem.run_pure, Result.andThen_ok, List.map_toArray, List.map_cons, List.map_nil, hs, hx, hrun]
  exact h v' w' h2 h3 h4
end
end Go.Proofs.YtfihfjbakfadkaaGreatDoor
namespace Go.Proofs.YtfihfjbakfadkaaGreatDoor
open Go.ChangeShapes Go.WideShapes Go.RowKit Go.Deep

inductive Leaf where
  | int (k : IntKind)
  | bool
  | string
  | slice (t : TypeId)

/-- The cells of a value of type t: each one's place and kind. -/
def leaves (P : Program) : Nat → TypeId → List (Nat × Leaf)
  | 0, _ => []
  | n + 1, t =>
    match P.underlying t with
    | some .bool => [(0, .bool)]
    | some (.int k) => [(0, .int k)]
    | some .string => [(0, .string)]
    | some (.slice _) => [(0, .slice t)]
    | some (.struct fs) => fs.toList.flatMap fun f => (leaves P n f.type).map fun x => (f.offset + x.1, x.2)
    | _ => []

section
variable {H : Type} (enc : TypeId × Value → H) (P : Program) (w : World)

/-- A cell is of a kind; a slice's elements read as data, and lie below the heap's end. -/
def Conf : Leaf → Value → Prop
  | .int k, v => ∃ n, v = .int k n ∧ (Lit.int k n).wf = true
  | .bool, v => ∃ b, v = .bool b
  | .string, v => ∃ s : ByteArray, v = .string s ∧ s.size ≤ reachBytes
  | .slice t, v => ∃ fuel d ps, DataW.trod enc P w 0 (fun _ => true) true fuel t [v] = some (d, ps) ∧ (∀ p ∈ ps, p.block < w.heap.size) ∧ (∀ x ∈ d.weights P t, x ≤ reachBytes)
end

section
variable {H : Type} {enc : TypeId × Value → H} {P : Program} {w : World}

theorem leaves_conf : ∀ (n : Nat) (t : TypeId) (fuel : Nat) (cs : List Value) (x : DataW H × List MemPlace), DataW.trod enc P w 0 (fun _ => true) true fuel t cs = some x →
    (∀ p ∈ x.2, p.block < w.heap.size) → (∀ y ∈ x.1.weights P t, y ≤ reachBytes) → ∀ o l, (o, l) ∈ leaves P n t → ∃ v, cs[o]? = some v ∧ Conf enc P w l v := by
  intro n
  induction n with
  | zero => intro t fuel cs x _ _ _ o l h; simp [leaves] at h
  | succ n ih =>
    intro t fuel cs x h hlt hwt o l hl
    simp only [leaves] at hl
    split at hl
    · rename_i hu
      obtain ⟨rfl, rfl⟩ : o = 0 ∧ l = .bool := by simpa using hl
      obtain ⟨b, rfl, _⟩ := DataW.trod_bool hu h
      exact ⟨_, rfl, b, rfl⟩
    · rename_i k hu
      obtain ⟨rfl, rfl⟩ : o = 0 ∧ l = .int k := by simpa using hl
      obtain ⟨b, rfl, _, hwf⟩ := DataW.trod_int hu h
      exact ⟨_, rfl, b, rfl, hwf⟩
    · rename_i hu
      obtain ⟨rfl, rfl⟩ : o = 0 ∧ l = .string := by simpa using hl
      obtain ⟨s, rfl, hx, _⟩ := DataW.trod_string hu h
      refine ⟨_, rfl, s, rfl, ?_⟩
      subst hx
      simpa [DataW.weights] using hwt
    · rename_i e hu
      obtain ⟨rfl, rfl⟩ : o = 0 ∧ l = .slice t := by simpa using hl
      rcases DataW.trod_slice hu h with ⟨rfl, _⟩ | ⟨a, len, cap, elems, rest, m, _, rfl, _⟩
      · exact ⟨_, rfl, fuel, x.1, x.2, h, hlt, hwt⟩
      · exact ⟨_, rfl, fuel, x.1, x.2, h, hlt, hwt⟩
    · rename_i fs hu
      obtain ⟨f, hf, hx⟩ := List.mem_flatMap.1 hl
      obtain ⟨⟨o', l'⟩, hm, he⟩ := List.mem_map.1 hx
      obtain ⟨rfl, rfl⟩ : f.offset + o' = o ∧ l' = l := by simpa using he
      obtain ⟨xs, m, _, rfl, _, hlen, hg⟩ := DataW.trod_struct hu h
      obtain ⟨i, hi, hfi⟩ := List.mem_iff_getElem.1 hf
      have hfi' : fs[i]? = some f := by
        rw [← Array.getElem?_toList, List.getElem?_eq_getElem hi, hfi]
      have hil : i < xs.length := by rw [hlen]; simpa using hi
      have hgi := hg i f hfi'
      rw [List.getElem?_eq_getElem hil] at hgi
      obtain ⟨v, hv, hc⟩ := ih f.type m _ xs[i] hgi (fun p hp => hlt p (List.mem_flatMap.2 ⟨xs[i], List.getElem_mem hil, hp⟩)) (fun y hy => hwt y (by
        simp only [DataW.weights, hu]
        refine DataW.weights_mem_each (j := i) (t := f.type) (d := xs[i].1) ?_ ?_ y hy
        · rw [List.getElem?_map, List.getElem?_eq_getElem hi, hfi]; rfl
        · rw [List.getElem?_map, List.getElem?_eq_getElem hil]; rfl)) o' l' hm
      refine ⟨v, ?_, hc⟩
      rw [List.getElem?_take] at hv
      split at hv
      · rw [List.getElem?_drop] at hv; exact hv
      · cases hv
    · simp at hl

theorem weightsAll_mem {e : TypeId} : ∀ {l : List (DataW H)} {d : DataW H}, d ∈ l → ∀ y ∈ d.weights P e, y ∈ DataW.weightsAll P e l
  | x :: r, d, h, y, hy => by
    simp only [DataW.weightsAll, List.mem_append]
    rcases List.mem_cons.1 h with rfl | h
    · exact .inl hy
    · exact .inr (weightsAll_mem h y hy)

/-- A slice of flat things, opened: its address is asked for only where it has elements. -/
def Rd (enc : TypeId × Value → H) (P : Program) (w : World) (m e : Nat) (A : Option Addr) (n : Nat) : Prop :=
  0 < n → ∃ b off, A = some ⟨b, off, none⟩ ∧ b < w.heap.size ∧ ∀ k, k < n → ∀ o l, (o, l) ∈ leaves P m e → ∃ u, w.cell? ⟨b, off + k * P.cellsOf e + o, none⟩ = some u ∧ Conf enc P w l u

theorem open_list (m : Nat) {t e : TypeId} {fuel : Nat} {v : Value} {d : DataW H} {ps : List MemPlace} (ht : P.underlying t = some (.slice e)) (h : DataW.trod enc P w 0 (fun _ => true) true fuel t [v] = some (d, ps))
    (hlt : ∀ p ∈ ps, p.block < w.heap.size) (hwt : ∀ y ∈ d.weights P t, y ≤ reachBytes) (hne : (leaves P m e).isEmpty = false) (hin : (leaves P m e).all (fun x => decide (x.1 < P.cellsOf e)) = true) :
    ∃ A n c, v = .slice A n c ∧ n ≤ c ∧ c ≤ maxLen ∧ c * P.bytesOf e ≤ reachBytes ∧ (A = none → n = 0 ∧ c = 0) ∧ Rd enc P w m e A n := by
  rcases open_slice ht h with ⟨hv, hx⟩ | ⟨a, len, cap, m', fu, D, Pl, hv, hb, hl, hm, hmm, hx, hi⟩
  · obtain rfl : v = .slice none 0 0 := by simpa using hv
    exact ⟨none, 0, 0, rfl, Nat.le_refl _, by simp, by simp, fun _ => ⟨rfl, rfl⟩, fun h => absurd h (by omega)⟩
  · obtain rfl : v = .slice (some a) len cap := by simpa using hv
    simp only [if_true] at hmm
    subst hmm
    obtain ⟨rfl, rfl⟩ : d = _ ∧ ps = _ := by simpa using hx
    have hwd : (((List.range len).map D).length + ((List.range (m' - len)).map fun j => D (len + j)).length) * P.bytesOf e ≤ reachBytes := by
      refine hwt _ ?_
      simp only [DataW.weights, ht]
      exact List.mem_cons_self
    have hcap : m' * P.bytesOf e ≤ reachBytes := by
      simp only [List.length_map, List.length_range] at hwd
      rwa [show len + (m' - len) = m' by omega] at hwd
    refine ⟨some a, len, m', rfl, hl, hm, hcap, (fun h => by cases h), fun hn => ?_⟩
    have hsz : 0 < P.cellsOf e := by
      cases hlv : leaves P m e with
      | nil => rw [hlv] at hne; cases hne
      | cons y ys => rw [hlv] at hin; simp at hin; omega
    have hcell : ∀ k, k < len → ∃ cs : List Value, cs.length = P.cellsOf e ∧ (∀ j, j < P.cellsOf e → w.cell? (a.add (k * P.cellsOf e + j)) = cs[j]?) ∧ ∀ o l, (o, l) ∈ leaves P m e → ∃ v, cs[o]? = some v ∧ Conf enc P w l v := by
      intro k hk
      obtain ⟨cs, hc, htr⟩ := hi k (by omega)
      obtain ⟨_, hcl, hat⟩ := World.cells?_some hc
      refine ⟨cs, hcl, fun j hj => by rw [← hat j hj, add_add], leaves_conf m e fu cs _ htr ?_ ?_⟩
      · intro p hp
        refine hlt p ?_
        rw [List.mem_append]
        exact .inr (List.mem_flatMap.2 ⟨k, List.mem_range.2 (by omega), hp⟩)
      · intro y hy
        refine hwt y ?_
        simp only [DataW.weights, ht, List.mem_cons, List.mem_append]
        exact .inr (.inl (weightsAll_mem (List.mem_map.2 ⟨k, List.mem_range.2 hk, rfl⟩) y hy))
    obtain ⟨cs0, hcl0, hat0, _⟩ := hcell 0 hn
    have h00 := hat0 0 hsz
    have hsome : ∃ u, w.cell? a = some u := by
      have : a.add (0 * P.cellsOf e + 0) = a := by simp [Addr.add]
      rw [this, List.getElem?_eq_getElem (by omega)] at h00
      exact ⟨_, h00⟩
    obtain ⟨u0, hu0⟩ := hsome
    have hspot : a.spot = none := by
      unfold World.cell? at hu0
      split at hu0
      · split at hu0
        · cases hu0
        · rename_i hs; simpa using hs
      · cases hu0
    obtain ⟨b, off, sp⟩ := a
    simp only at hspot
    subst hspot
    have hadd : ∀ j, (⟨b, off, none⟩ : Addr).add j = ⟨b, off + j, none⟩ := by
      intro j
      unfold Addr.add
      split <;> simp_all
    refine ⟨b, off, rfl, World.block_lt_of_cell? w _ hu0, fun k hk o l hol => ?_⟩
    obtain ⟨cs, hcl, hat, hcf⟩ := hcell k hk
    obtain ⟨v, hv, hc⟩ := hcf o l hol
    refine ⟨v, ?_, hc⟩
    have hoe : o < P.cellsOf e := by
      have := List.all_eq_true.1 hin _ hol
      simpa using this
    have := hat o hoe
    rw [hadd, hv] at this
    rw [Nat.add_assoc]
    exact this

/-- A flat argument by value. -/
theorem open_flat (m : Nat) {t : TypeId} {v : Value} {d : DataW H} {ps : List MemPlace} (h : DataW.Trod enc P w 0 (fun _ => true) true t v d ps)
    (hlt : ∀ p ∈ ps, p.block < w.heap.size) (hwt : ∀ y ∈ d.weights P t, y ≤ reachBytes) : ∀ o l, (o, l) ∈ leaves P m t → ∃ u, v.cells.toList[o]? = some u ∧ Conf enc P w l u := by
  obtain ⟨fuel, hf⟩ := h
  exact leaves_conf m t fuel _ _ hf hlt hwt

theorem open_agg (m : Nat) {t : TypeId} {fs : Array Field} {r : Reach} {b0 : Nat} {v : Value} {d : DataW H} {ps : List MemPlace} (hs : P.underlying t = some (.struct fs)) (hv : Value.okWide P w r b0 t v) (h : DataW.Trod enc P w 0 (fun _ => true) true t v d ps)
    (hlt : ∀ p ∈ ps, p.block < w.heap.size) (hwt : ∀ y ∈ d.weights P t, y ≤ reachBytes) : ∃ cs : List Value, v = .agg cs.toArray ∧ cs.length = P.cellsOf t ∧ ∀ o l, (o, l) ∈ leaves P m t → ∃ u, cs[o]? = some u ∧ Conf enc P w l u := by
  obtain ⟨cs, rfl, hsz⟩ := okWide_struct hs hv
  refine ⟨cs.toList, by simp, by simpa using hsz, ?_⟩
  have := open_flat (P := P) (w := w) m h hlt hwt
  simpa [Value.cells] using this

theorem open_slice_arg (m : Nat) {t e : TypeId} {r : Reach} {b0 : Nat} {v : Value} {d : DataW H} {ps : List MemPlace} (ht : P.underlying t = some (.slice e)) (hv : Value.okWide P w r b0 t v) (h : DataW.Trod enc P w 0 (fun _ => true) true t v d ps)
    (hlt : ∀ p ∈ ps, p.block < w.heap.size) (hwt : ∀ y ∈ d.weights P t, y ≤ reachBytes) (hne : (leaves P m e).isEmpty = false) (hin : (leaves P m e).all (fun x => decide (x.1 < P.cellsOf e)) = true) :
    ∃ A n c, v = .slice A n c ∧ n ≤ c ∧ c ≤ maxLen ∧ c * P.bytesOf e ≤ reachBytes ∧ (A = none → n = 0 ∧ c = 0) ∧ Rd enc P w m e A n := by
  obtain ⟨a0, len, cap, rfl⟩ := okWide_slice ht hv
  obtain ⟨fuel, hf⟩ := h
  exact open_list m ht (by simpa [Value.cells] using hf) hlt hwt hne hin
end
end Go.Proofs.YtfihfjbakfadkaaGreatDoor
namespace Go.Proofs.YtfihfjbakfadkaaGreatDoor
open Go.ChangeShapes Go.WideShapes Go.RowKit
set_option maxRecDepth 100000
set_option linter.unusedVariables false
set_option linter.unusedSimpArgs false

theorem cells_Row : Tryz.prog.cellsOf 143 = 2 := by kernel_rfl
theorem leaves_Row : leaves Tryz.prog 6 143 = [(0, .string), (1, .string)] := by kernel_rfl
def RowAt (w : World) (A : Option Addr) (n : Nat) : Prop :=
  0 < n → ∃ b off, A = some ⟨b, off, none⟩ ∧ b < w.heap.size ∧ ∀ k, k < n → ∃ (x0 : ByteArray) (x1 : ByteArray), x0.size ≤ reachBytes ∧ x1.size ≤ reachBytes ∧ w.cell? ⟨b, off + k * 2, none⟩ = some (.string x0) ∧ w.cell? ⟨b, off + k * 2 + 1, none⟩ = some (.string x1)
theorem Row_at {H : Type} {enc : TypeId × Value → H} {w : World} {A : Option Addr} {n : Nat} (h : Rd enc Tryz.prog w 6 143 A n) : RowAt w A n := by
  intro hn
  obtain ⟨b, off, hA, hb, hc⟩ := h hn
  refine ⟨b, off, hA, hb, fun k hk => ?_⟩
  have hk := hc k hk
  rw [leaves_Row, cells_Row] at hk
  obtain ⟨_, h0, x0, rfl, w0⟩ := hk 0 .string (by simp)
  obtain ⟨_, h1, x1, rfl, w1⟩ := hk 1 .string (by simp)
  exact ⟨x0, x1, w0, w1, h0, h1⟩
theorem cells_Entry : Tryz.prog.cellsOf 59 = 2 := by kernel_rfl
theorem leaves_Entry : leaves Tryz.prog 6 59 = [(0, .string), (1, .int .i64)] := by kernel_rfl
def EntryAt (w : World) (A : Option Addr) (n : Nat) : Prop :=
  0 < n → ∃ b off, A = some ⟨b, off, none⟩ ∧ b < w.heap.size ∧ ∀ k, k < n → ∃ (x0 : ByteArray) (x1 : Int), x0.size ≤ reachBytes ∧ (Lit.int .i64 x1).wf = true ∧ w.cell? ⟨b, off + k * 2, none⟩ = some (.string x0) ∧ w.cell? ⟨b, off + k * 2 + 1, none⟩ = some (.int .i64 x1)
theorem Entry_at {H : Type} {enc : TypeId × Value → H} {w : World} {A : Option Addr} {n : Nat} (h : Rd enc Tryz.prog w 6 59 A n) : EntryAt w A n := by
  intro hn
  obtain ⟨b, off, hA, hb, hc⟩ := h hn
  refine ⟨b, off, hA, hb, fun k hk => ?_⟩
  have hk := hc k hk
  rw [leaves_Entry, cells_Entry] at hk
  obtain ⟨_, h0, x0, rfl, w0⟩ := hk 0 .string (by simp)
  obtain ⟨_, h1, x1, rfl, w1⟩ := hk 1 (.int .i64) (by simp)
  exact ⟨x0, x1, w0, w1, h0, h1⟩
theorem cells_Record : Tryz.prog.cellsOf 33 = 15 := by kernel_rfl
theorem leaves_Record : leaves Tryz.prog 6 33 = [(0, .int .i64), (1, .string), (2, .string), (3, .bool), (4, .int .i64), (5, .slice 28), (6, .slice 29), (7, .string), (8, .string), (9, .int .i64), (10, .int .i64), (11, .int .i64), (12, .string), (13, .int .i64), (14, .int .i64)] := by kernel_rfl
def RecordAt {H : Type} (enc : TypeId × Value → H) (w : World) (A : Option Addr) (n : Nat) : Prop :=
  0 < n → ∃ b off, A = some ⟨b, off, none⟩ ∧ b < w.heap.size ∧ ∀ k, k < n → ∃ (x0 : Int) (x1 : ByteArray) (x2 : ByteArray) (x3 : Bool) (x4 : Int) (x5 : Value) (x6 : Value) (x7 : ByteArray) (x8 : ByteArray) (x9 : Int) (x10 : Int) (x11 : Int) (x12 : ByteArray) (x13 : Int) (x14 : Int), (Lit.int .i64 x0).wf = true ∧ x1.size ≤ reachBytes ∧ x2.size ≤ reachBytes ∧ (Lit.int .i64 x4).wf = true ∧ Conf enc Tryz.prog w (.slice 28) x5 ∧ Conf enc Tryz.prog w (.slice 29) x6 ∧ x7.size ≤ reachBytes ∧ x8.size ≤ reachBytes ∧ (Lit.int .i64 x9).wf = true ∧ (Lit.int .i64 x10).wf = true ∧ (Lit.int .i64 x11).wf = true ∧ x12.size ≤ reachBytes ∧ (Lit.int .i64 x13).wf = true ∧ (Lit.int .i64 x14).wf = true ∧ w.cell? ⟨b, off + k * 15, none⟩ = some (.int .i64 x0) ∧ w.cell? ⟨b, off + k * 15 + 1, none⟩ = some (.string x1) ∧ w.cell? ⟨b, off + k * 15 + 1 + 1, none⟩ = some (.string x2) ∧ w.cell? ⟨b, off + k * 15 + 1 + 1 + 1, none⟩ = some (.bool x3) ∧ w.cell? ⟨b, off + k * 15 + 1 + 1 + 1 + 1, none⟩ = some (.int .i64 x4) ∧ w.cell? ⟨b, off + k * 15 + 1 + 1 + 1 + 1 + 1, none⟩ = some (x5) ∧ w.cell? ⟨b, off + k * 15 + 1 + 1 + 1 + 1 + 1 + 1, none⟩ = some (x6) ∧ w.cell? ⟨b, off + k * 15 + 1 + 1 + 1 + 1 + 1 + 1 + 1, none⟩ = some (.string x7) ∧ w.cell? ⟨b, off + k * 15 + 1 + 1 + 1 + 1 + 1 + 1 + 1 + 1, none⟩ = some (.string x8) ∧ w.cell? ⟨b, off + k * 15 + 1 + 1 + 1 + 1 + 1 + 1 + 1 + 1 + 1, none⟩ = some (.int .i64 x9) ∧ w.cell? ⟨b, off + k * 15 + 1 + 1 + 1 + 1 + 1 + 1 + 1 + 1 + 1 + 1, none⟩ = some (.int .i64 x10) ∧ w.cell? ⟨b, off + k * 15 + 1 + 1 + 1 + 1 + 1 + 1 + 1 + 1 + 1 + 1 + 1, none⟩ = some (.int .i64 x11) ∧ w.cell? ⟨b, off + k * 15 + 1 + 1 + 1 + 1 + 1 + 1 + 1 + 1 + 1 + 1 + 1 + 1, none⟩ = some (.string x12) ∧ w.cell? ⟨b, off + k * 15 + 1 + 1 + 1 + 1 + 1 + 1 + 1 + 1 + 1 + 1 + 1 + 1 + 1, none⟩ = some (.int .i64 x13) ∧ w.cell? ⟨b, off + k * 15 + 1 + 1 + 1 + 1 + 1 + 1 + 1 + 1 + 1 + 1 + 1 + 1 + 1 + 1, none⟩ = some (.int .i64 x14)
theorem Record_at {H : Type} {enc : TypeId × Value → H} {w : World} {A : Option Addr} {n : Nat} (h : Rd enc Tryz.prog w 6 33 A n) : RecordAt enc w A n := by
  intro hn
  obtain ⟨b, off, hA, hb, hc⟩ := h hn
  refine ⟨b, off, hA, hb, fun k hk => ?_⟩
  have hk := hc k hk
  rw [leaves_Record, cells_Record] at hk
  obtain ⟨_, h0, x0, rfl, w0⟩ := hk 0 (.int .i64) (by simp)
  obtain ⟨_, h1, x1, rfl, w1⟩ := hk 1 .string (by simp)
  obtain ⟨_, h2, x2, rfl, w2⟩ := hk 2 .string (by simp)
  obtain ⟨_, h3, x3, rfl⟩ := hk 3 .bool (by simp)
  obtain ⟨_, h4, x4, rfl, w4⟩ := hk 4 (.int .i64) (by simp)
  obtain ⟨x5, h5, w5⟩ := hk 5 (.slice 28) (by simp)
  obtain ⟨x6, h6, w6⟩ := hk 6 (.slice 29) (by simp)
  obtain ⟨_, h7, x7, rfl, w7⟩ := hk 7 .string (by simp)
  obtain ⟨_, h8, x8, rfl, w8⟩ := hk 8 .string (by simp)
  obtain ⟨_, h9, x9, rfl, w9⟩ := hk 9 (.int .i64) (by simp)
  obtain ⟨_, h10, x10, rfl, w10⟩ := hk 10 (.int .i64) (by simp)
  obtain ⟨_, h11, x11, rfl, w11⟩ := hk 11 (.int .i64) (by simp)
  obtain ⟨_, h12, x12, rfl, w12⟩ := hk 12 .string (by simp)
  obtain ⟨_, h13, x13, rfl, w13⟩ := hk 13 (.int .i64) (by simp)
  obtain ⟨_, h14, x14, rfl, w14⟩ := hk 14 (.int .i64) (by simp)
  exact ⟨x0, x1, x2, x3, x4, x5, x6, x7, x8, x9, x10, x11, x12, x13, x14, w0, w1, w2, w4, w5, w6, w7, w8, w9, w10, w11, w12, w13, w14, h0, h1, h2, h3, h4, h5, h6, h7, h8, h9, h10, h11, h12, h13, h14⟩
end Go.Proofs.YtfihfjbakfadkaaGreatDoor
namespace Go.Proofs.YtfihfjbakfadkaaGreatDoor
open Go.ChangeShapes Go.WideShapes Go.RowKit
set_option maxRecDepth 100000
set_option linter.unusedVariables false

abbrev Rw := ByteArray × ByteArray
abbrev Et := ByteArray × Int
structure Rc where
  kind : Int
  low : ByteArray
  high : ByteArray
  unb : Bool
  right : Int
  rows : List Rw
  ents : List Et
  key : ByteArray
  val : ByteArray
  page : Int
  hpage : Int
  hleft : Int
  hkey : ByteArray
  nslot : Int
  ngen : Int
abbrev nilS : ByteArray := ⟨#[]⟩
def Rc.zero : Rc := ⟨0, nilS, nilS, false, 0, [], [], nilS, nilS, 0, 0, 0, nilS, 0, 0⟩
abbrev recA (R : Rc) (vr ve : Value) : Array Value := #[.int .i64 R.kind, .string R.low, .string R.high, .bool R.unb, .int .i64 R.right, vr, ve, .string R.key, .string R.val, .int .i64 R.page, .int .i64 R.hpage, .int .i64 R.hleft, .string R.hkey, .int .i64 R.nslot, .int .i64 R.ngen]
abbrev recV (R : Rc) (vr ve : Value) : Value := .agg (recA R vr ve)
abbrev recB (R : Rc) (vr ve : Value) : Obj := .cells (recA R vr ve) 33

def rwCells (p : Rw) : List Value := [.string p.1, .string p.2]
def etCells (p : Et) : List Value := [.string p.1, .int .i64 p.2]
def rwFlat (L : List Rw) : List Value := (L.map rwCells).flatten
def etFlat (L : List Et) : List Value := (L.map etCells).flatten
theorem rwFlat_len (L : List Rw) : (rwFlat L).length = L.length * 2 := by
  unfold rwFlat
  induction L with
  | nil => rfl
  | cons p t ih => simp [rwCells] at ih ⊢; omega
theorem etFlat_len (L : List Et) : (etFlat L).length = L.length * 2 := by
  unfold etFlat
  induction L with
  | nil => rfl
  | cons p t ih => simp [etCells] at ih ⊢; omega
theorem rwFlat_one (L : List Rw) : ∀ u ∈ rwFlat L, u.oneCell' = true := by
  intro u hu
  simp only [rwFlat, List.mem_flatten, List.mem_map] at hu
  obtain ⟨l, ⟨p, _, rfl⟩, hu⟩ := hu
  simp only [rwCells, List.mem_cons, List.not_mem_nil, or_false] at hu
  rcases hu with rfl | rfl <;> rfl
theorem etFlat_one (L : List Et) : ∀ u ∈ etFlat L, u.oneCell' = true := by
  intro u hu
  simp only [etFlat, List.mem_flatten, List.mem_map] at hu
  obtain ⟨l, ⟨p, _, rfl⟩, hu⟩ := hu
  simp only [etCells, List.mem_cons, List.not_mem_nil, or_false] at hu
  rcases hu with rfl | rfl <;> rfl
theorem rwFlat_get : ∀ (L : List Rw) (i : Nat) (p : Rw), L[i]? = some p → (rwFlat L)[i * 2]? = some (.string p.1) ∧ (rwFlat L)[i * 2 + 1]? = some (.string p.2)
  | [], i, p, h => by simp at h
  | q :: L, 0, p, h => by
    obtain rfl : q = p := by simpa using h
    simp [rwFlat, rwCells]
  | q :: L, i + 1, p, h => by
    have := rwFlat_get L i p (by simpa using h)
    rw [show (i + 1) * 2 = i * 2 + 1 + 1 by omega]
    simpa [rwFlat, rwCells] using this
theorem etFlat_get : ∀ (L : List Et) (i : Nat) (p : Et), L[i]? = some p → (etFlat L)[i * 2]? = some (.string p.1) ∧ (etFlat L)[i * 2 + 1]? = some (.int .i64 p.2)
  | [], i, p, h => by simp at h
  | q :: L, 0, p, h => by
    obtain rfl : q = p := by simpa using h
    simp [etFlat, etCells]
  | q :: L, i + 1, p, h => by
    have := etFlat_get L i p (by simpa using h)
    rw [show (i + 1) * 2 = i * 2 + 1 + 1 by omega]
    simpa [etFlat, etCells] using this
theorem flat2_inv {α : Type} (f g : α → Value) : ∀ (L : List α) (j : Nat) (u : Value), ((L.map fun p => [f p, g p]).flatten)[j]? = some u → ∃ (k : Nat) (p : α), L[k]? = some p ∧ ((j = k * 2 ∧ u = f p) ∨ (j = k * 2 + 1 ∧ u = g p))
  | [], j, u, h => by simp at h
  | q :: L, j, u, h => by
    simp only [List.map_cons, List.flatten_cons] at h
    match j, h with
    | 0, h => exact ⟨0, q, rfl, .inl ⟨rfl, by simpa using h.symm⟩⟩
    | 1, h => exact ⟨0, q, rfl, .inr ⟨rfl, by simpa using h.symm⟩⟩
    | j + 2, h =>
      obtain ⟨k, p, hp, hh⟩ := flat2_inv f g L j u (by simpa using h)
      refine ⟨k + 1, p, by simpa using hp, ?_⟩
      rcases hh with ⟨e, hu⟩ | ⟨e, hu⟩
      · exact .inl ⟨by omega, hu⟩
      · exact .inr ⟨by omega, hu⟩

/-- Rows that came in, as a list (all texts of the reach). -/
def RwReads (w : World) (A : Option Addr) (n : Nat) (L : List Rw) : Prop :=
  L.length = n ∧ (0 < n → ∃ b off, A = some ⟨b, off, none⟩ ∧ b < w.heap.size ∧ ∀ k p, L[k]? = some p →
    (p.1.size ≤ reachBytes ∧ p.2.size ≤ reachBytes) ∧ w.cell? ⟨b, off + k * 2, none⟩ = some (.string p.1) ∧ w.cell? ⟨b, off + k * 2 + 1, none⟩ = some (.string p.2))
def EtReads (w : World) (A : Option Addr) (n : Nat) (L : List Et) : Prop :=
  L.length = n ∧ (0 < n → ∃ b off, A = some ⟨b, off, none⟩ ∧ b < w.heap.size ∧ ∀ k p, L[k]? = some p →
    (p.1.size ≤ reachBytes ∧ (Lit.int .i64 p.2).wf = true) ∧ w.cell? ⟨b, off + k * 2, none⟩ = some (.string p.1) ∧ w.cell? ⟨b, off + k * 2 + 1, none⟩ = some (.int .i64 p.2))
theorem rows_of {w : World} {A : Option Addr} {n : Nat} (h : RowAt w A n) : ∃ L, RwReads w A n L := by
  rcases Nat.eq_zero_or_pos n with h0 | h0
  · subst h0; exact ⟨[], rfl, fun h => absurd h (by omega)⟩
  · obtain ⟨b, off, hA, hb, hc⟩ := h h0
    obtain ⟨L, hl, hL⟩ := choose_list (α := Rw) (P := fun k p => (p.1.size ≤ reachBytes ∧ p.2.size ≤ reachBytes) ∧ w.cell? ⟨b, off + k * 2, none⟩ = some (.string p.1) ∧ w.cell? ⟨b, off + k * 2 + 1, none⟩ = some (.string p.2)) n (fun k hk => by
      obtain ⟨x0, x1, w0, w1, h0, h1⟩ := hc k hk
      exact ⟨(x0, x1), ⟨w0, w1⟩, h0, h1⟩)
    exact ⟨L, hl, fun _ => ⟨b, off, hA, hb, hL⟩⟩
theorem ents_of {w : World} {A : Option Addr} {n : Nat} (h : EntryAt w A n) : ∃ L, EtReads w A n L := by
  rcases Nat.eq_zero_or_pos n with h0 | h0
  · subst h0; exact ⟨[], rfl, fun h => absurd h (by omega)⟩
  · obtain ⟨b, off, hA, hb, hc⟩ := h h0
    obtain ⟨L, hl, hL⟩ := choose_list (α := Et) (P := fun k p => (p.1.size ≤ reachBytes ∧ (Lit.int .i64 p.2).wf = true) ∧ w.cell? ⟨b, off + k * 2, none⟩ = some (.string p.1) ∧ w.cell? ⟨b, off + k * 2 + 1, none⟩ = some (.int .i64 p.2)) n (fun k hk => by
      obtain ⟨x0, x1, w0, w1, h0, h1⟩ := hc k hk
      exact ⟨(x0, x1), ⟨w0, w1⟩, h0, h1⟩)
    exact ⟨L, hl, fun _ => ⟨b, off, hA, hb, hL⟩⟩
theorem RwReads.reads {w : World} {A : Option Addr} {n : Nat} {L : List Rw} (h : RwReads w A n L) : Reads w 2 A n (rwFlat L) := by
  refine ⟨by rw [rwFlat_len, h.1], fun hn => ?_⟩
  obtain ⟨b, off, hA, hb, hc⟩ := h.2 hn
  refine ⟨⟨b, off, none⟩, hA, fun j u hu => ?_⟩
  obtain ⟨k, p, hp, hh⟩ := flat2_inv (fun p : Rw => Value.string p.1) (fun p => .string p.2) L j u hu
  obtain ⟨_, c0, c1⟩ := hc k p hp
  rw [add_lit]
  rcases hh with ⟨rfl, rfl⟩ | ⟨rfl, rfl⟩
  · exact c0
  · exact c1
theorem EtReads.reads {w : World} {A : Option Addr} {n : Nat} {L : List Et} (h : EtReads w A n L) : Reads w 2 A n (etFlat L) := by
  refine ⟨by rw [etFlat_len, h.1], fun hn => ?_⟩
  obtain ⟨b, off, hA, hb, hc⟩ := h.2 hn
  refine ⟨⟨b, off, none⟩, hA, fun j u hu => ?_⟩
  obtain ⟨k, p, hp, hh⟩ := flat2_inv (fun p : Et => Value.string p.1) (fun p => .int .i64 p.2) L j u hu
  obtain ⟨_, c0, c1⟩ := hc k p hp
  rw [add_lit]
  rcases hh with ⟨rfl, rfl⟩ | ⟨rfl, rfl⟩
  · exact c0
  · exact c1
theorem RwReads.fr {w w' : World} {A : Option Addr} {n : Nat} {L : List Rw} (h : RwReads w A n L) (hf : Fr none_ w w') : RwReads w' A n L :=
  ⟨h.1, fun hn => by
    obtain ⟨b, off, hA, hb, hc⟩ := h.2 hn
    exact ⟨b, off, hA, by have := hf.size; omega, fun k p hp => by
      obtain ⟨s, c0, c1⟩ := hc k p hp
      exact ⟨s, cellFr c0 hf, cellFr c1 hf⟩⟩⟩
theorem EtReads.fr {w w' : World} {A : Option Addr} {n : Nat} {L : List Et} (h : EtReads w A n L) (hf : Fr none_ w w') : EtReads w' A n L :=
  ⟨h.1, fun hn => by
    obtain ⟨b, off, hA, hb, hc⟩ := h.2 hn
    exact ⟨b, off, hA, by have := hf.size; omega, fun k p hp => by
      obtain ⟨s, c0, c1⟩ := hc k p hp
      exact ⟨s, cellFr c0 hf, cellFr c1 hf⟩⟩⟩
theorem ents_conf {H : Type} {enc : TypeId × Value → H} {w : World} {v : Value} (h : Conf enc Tryz.prog w (.slice 29) v) : ∃ A n c L, v = .slice A n c ∧ n ≤ c ∧ c ≤ maxLen ∧ (A = none → n = 0 ∧ c = 0) ∧ EtReads w A n L := by
  obtain ⟨fuel, d, ps, ht, hlt, hwt⟩ := h
  obtain ⟨A, n, c, rfl, h1, h2, h3, h4, h5⟩ := open_list 6 Tryz.underlying29 ht hlt hwt (by rw [leaves_Entry]; rfl) (by rw [leaves_Entry, cells_Entry]; rfl)
  obtain ⟨L, hL⟩ := ents_of (Entry_at h5)
  exact ⟨A, n, c, L, rfl, h1, h2, h4, hL⟩

theorem row_info : (Tryz.prog.info? 143).map (fun i => (i.zero, i.size, i.bytes)) = some (some (.agg #[.string nilS, .string nilS]), 2, 32) := by kernel_rfl
theorem entry_info : (Tryz.prog.info? 59).map (fun i => (i.zero, i.size, i.bytes)) = some (some (.agg #[.string nilS, .int .i64 0]), 2, 24) := by kernel_rfl

/-- A record whose slices are rows of the call's own. -/
structure RecOwn (w : World) (base : Nat) (R : Rc) (vr ve : Value) : Prop where
  r : w.ownsRow base 143 2 vr R.rows.length (rwFlat R.rows)
  e : w.ownsRow base 59 2 ve R.ents.length (etFlat R.ents)
theorem RecOwn.keep {w w' : World} {base : Nat} {R : Rc} {vr ve : Value} (h : RecOwn w base R vr ve) (hf : Fr none_ w w') : RecOwn w' base R vr ve := ⟨own_none h.r hf, own_none h.e hf⟩
theorem RecOwn.base {w : World} {b b' : Nat} {R : Rc} {vr ve : Value} (h : RecOwn w b R vr ve) (hb : b' ≤ b) : RecOwn w b' R vr ve := ⟨own_base h.r hb, own_base h.e hb⟩
theorem RecOwn.fr {w w' : World} {S : Nat → Prop} {base : Nat} {R : Rc} {vr ve : Value} (h : RecOwn w base R vr ve) (hf : Fr S w w') (hr : ∀ k, vr.ownBlock = some k → ¬ S k) (he : ∀ k, ve.ownBlock = some k → ¬ S k) : RecOwn w' base R vr ve := ⟨own_fr h.r hf hr, own_fr h.e hf he⟩
/-- .. kept where a block of another type was turned. -/
theorem RecOwn.only {w w' : World} {base g : Nat} {R : Rc} {vr ve : Value} {t : TypeId} {cs : Array Value} (h : RecOwn w base R vr ve) (hf : Fr (only g) w w') (hg : Blk w g t cs) (h1 : 143 ≠ t) (h2 : 59 ≠ t) : RecOwn w' base R vr ve :=
  h.fr hf (fun k hk e => own_blk_ne h.r hg h1 (by rw [hk, show k = g from e])) (fun k hk e => own_blk_ne h.e hg h2 (by rw [hk, show k = g from e]))
theorem RecOwn.zero (w : World) (base : Nat) : RecOwn w base Rc.zero (.slice none 0 0) (.slice none 0 0) := ⟨World.ownsRow_nil _ _ _ _, World.ownsRow_nil _ _ _ _⟩
theorem box15 {w1 : World} {b : Nat} {t : TypeId} {c0 c1 c2 c3 c4 c5 c6 c7 c8 c9 c10 c11 c12 c13 c14 : Value} (h : Blk w1 b t #[c0, c1, c2, c3, c4, c5, c6, c7, c8, c9, c10, c11, c12, c13, c14]) (x0 x1 x2 x3 x4 x5 x6 x7 x8 x9 x10 x11 x12 x13 x14 : Value) :
    Blk (((((((((((((((w1.setCell ⟨b, 0, none⟩ x0).setCell ⟨b, 1, none⟩ x1).setCell ⟨b, 2, none⟩ x2).setCell ⟨b, 3, none⟩ x3).setCell ⟨b, 4, none⟩ x4).setCell ⟨b, 5, none⟩ x5).setCell ⟨b, 6, none⟩ x6).setCell ⟨b, 7, none⟩ x7).setCell ⟨b, 8, none⟩ x8).setCell ⟨b, 9, none⟩ x9).setCell ⟨b, 10, none⟩ x10).setCell ⟨b, 11, none⟩ x11).setCell ⟨b, 12, none⟩ x12).setCell ⟨b, 13, none⟩ x13).setCell ⟨b, 14, none⟩ x14) b t #[x0, x1, x2, x3, x4, x5, x6, x7, x8, x9, x10, x11, x12, x13, x14] ∧ Fr (only b) w1 (((((((((((((((w1.setCell ⟨b, 0, none⟩ x0).setCell ⟨b, 1, none⟩ x1).setCell ⟨b, 2, none⟩ x2).setCell ⟨b, 3, none⟩ x3).setCell ⟨b, 4, none⟩ x4).setCell ⟨b, 5, none⟩ x5).setCell ⟨b, 6, none⟩ x6).setCell ⟨b, 7, none⟩ x7).setCell ⟨b, 8, none⟩ x8).setCell ⟨b, 9, none⟩ x9).setCell ⟨b, 10, none⟩ x10).setCell ⟨b, 11, none⟩ x11).setCell ⟨b, 12, none⟩ x12).setCell ⟨b, 13, none⟩ x13).setCell ⟨b, 14, none⟩ x14) := by
  refine ⟨?_, ((((((((((((((((Fr.refl (only b) w1).setCell (p := ⟨b, 0, none⟩) (.inl (Eq.refl _)) x0).setCell (p := ⟨b, 1, none⟩) (.inl (Eq.refl _)) x1).setCell (p := ⟨b, 2, none⟩) (.inl (Eq.refl _)) x2).setCell (p := ⟨b, 3, none⟩) (.inl (Eq.refl _)) x3).setCell (p := ⟨b, 4, none⟩) (.inl (Eq.refl _)) x4).setCell (p := ⟨b, 5, none⟩) (.inl (Eq.refl _)) x5).setCell (p := ⟨b, 6, none⟩) (.inl (Eq.refl _)) x6).setCell (p := ⟨b, 7, none⟩) (.inl (Eq.refl _)) x7).setCell (p := ⟨b, 8, none⟩) (.inl (Eq.refl _)) x8).setCell (p := ⟨b, 9, none⟩) (.inl (Eq.refl _)) x9).setCell (p := ⟨b, 10, none⟩) (.inl (Eq.refl _)) x10).setCell (p := ⟨b, 11, none⟩) (.inl (Eq.refl _)) x11).setCell (p := ⟨b, 12, none⟩) (.inl (Eq.refl _)) x12).setCell (p := ⟨b, 13, none⟩) (.inl (Eq.refl _)) x13).setCell (p := ⟨b, 14, none⟩) (.inl (Eq.refl _)) x14)⟩
  have e := (((((((((((((((h.set_ 0 x0).set_ 1 x1).set_ 2 x2).set_ 3 x3).set_ 4 x4).set_ 5 x5).set_ 6 x6).set_ 7 x7).set_ 8 x8).set_ 9 x9).set_ 10 x10).set_ 11 x11).set_ 12 x12).set_ 13 x13).set_ 14 x14)
  simp only [List.setIfInBounds_toArray, List.set_cons_zero, List.set_cons_succ] at e
  exact e
end Go.Proofs.YtfihfjbakfadkaaGreatDoor
namespace Go.Proofs.YtfihfjbakfadkaaGreatDoor
open Go.RowKit
set_option maxRecDepth 100000
set_option linter.unusedVariables false

/-- What a record's two slices hold. -/
structure RecReads (w : World) (R : Rc) (A B : Option Addr) : Prop where
  r : Reads w 2 A R.rows.length (rwFlat R.rows)
  e : Reads w 2 B R.ents.length (etFlat R.ents)
theorem RecReads.keep {w w' : World} {R : Rc} {A B : Option Addr} (h : RecReads w R A B) (hf : Fr none_ w w') : RecReads w' R A B := ⟨h.r.none_fr hf, h.e.none_fr hf⟩
theorem RecOwn.reads {w : World} {base : Nat} {R : Rc} {A B : Option Addr} {c d : Nat} (h : RecOwn w base R (.slice A R.rows.length c) (.slice B R.ents.length d)) : RecReads w R A B := ⟨Reads.of_own h.r, Reads.of_own h.e⟩
theorem RecOwn.shape {w : World} {base : Nat} {R : Rc} {vr ve : Value} (h : RecOwn w base R vr ve) : ∃ A c B d, vr = .slice A R.rows.length c ∧ ve = .slice B R.ents.length d := by
  obtain ⟨A, c, e1⟩ := h.r.shape
  obtain ⟨B, d, e2⟩ := h.e.shape
  exact ⟨A, c, B, d, e1, e2⟩

/-- Behind the first append, and behind the second one. -/
structure CloneA (w w3 : World) (R : Rc) (vr ve v1 : Value) (A B : Option Addr) : Prop where
  f3 : Fr none_ w w3
  o1 : w3.ownsRow w.heap.size 143 2 v1 R.rows.length (rwFlat R.rows)
  k0 : Blk w3 w.heap.size 33 (recA R vr ve)
  k1 : Blk w3 (w.heap.size + 1) 33 (recA Rc.zero (.slice none 0 0) (.slice none 0 0))
  rd : RecReads w3 R A B
theorem clone_packA {w w3 : World} {R : Rc} {vr ve : Value} {A B A1 : Option Addr} {c1 : Nat} (h : RecReads w R A B) (hown : w3.ownsRow w.heap.size 143 2 (.slice A1 (0 + R.rows.length) c1) (0 + R.rows.length) ([] ++ rwFlat R.rows))
    (hgr : (((w.alloc (recB R vr ve)).alloc (recB Rc.zero (.slice none 0 0) (.slice none 0 0))).alloc (.cells #[] 143)).grownBy w3 (Value.slice (some ⟨w.heap.size + 1 + 1, 0, none⟩) 0 0).ownBlock) : CloneA w w3 R vr ve (.slice A1 R.rows.length c1) A B := by
  simp only [Nat.zero_add, List.nil_append] at hown
  have F3 : Fr none_ ((w.alloc (recB R vr ve)).alloc (recB Rc.zero (.slice none 0 0) (.slice none 0 0))) w3 := ((Fr.refl none_ _).alloc (.cells #[] 143)).grown hgr (fun k hk => .inr (by
    have : w.heap.size + 1 + 1 = k := by simpa [Value.ownBlock] using hk
    simp only [World.size_alloc]
    omega))
  have k1 := (Blk.new (w.alloc (recB R vr ve)) 33 (recA Rc.zero (.slice none 0 0) (.slice none 0 0))).fr F3 id
  rw [World.size_alloc] at k1
  have f := (((Fr.refl none_ w).alloc (recB R vr ve)).alloc (recB Rc.zero (.slice none 0 0) (.slice none 0 0))).then_none F3
  exact ⟨f, hown, ((Blk.new w _ _).alloc _).fr F3 id, k1, h.keep f⟩
structure CloneB (w w5 : World) (R : Rc) (ve v1 v2 : Value) : Prop where
  f5 : Fr none_ w w5
  o1 : w5.ownsRow w.heap.size 143 2 v1 R.rows.length (rwFlat R.rows)
  o2 : w5.ownsRow w.heap.size 59 2 v2 R.ents.length (etFlat R.ents)
  k0 : Blk w5 w.heap.size 33 (recA R v1 ve)
  k1 : Blk w5 (w.heap.size + 1) 33 (recA Rc.zero (.slice none 0 0) (.slice none 0 0))
theorem clone_packB {w w3 w5 : World} {R : Rc} {vr ve v1 : Value} {A B A2 : Option Addr} {c2 : Nat} (h : CloneA w w3 R vr ve v1 A B) (hown : w5.ownsRow w.heap.size 59 2 (.slice A2 (0 + R.ents.length) c2) (0 + R.ents.length) ([] ++ etFlat R.ents))
    (hgr : ((w3.setCell ⟨w.heap.size, 5, none⟩ v1).alloc (.cells #[] 59)).grownBy w5 (Value.slice (some ⟨w3.heap.size, 0, none⟩) 0 0).ownBlock) : CloneB w w5 R ve v1 (.slice A2 R.ents.length c2) := by
  simp only [Nat.zero_add, List.nil_append] at hown
  have F1 := Fr.only1 w3 ⟨w.heap.size, 5, none⟩ v1
  have hs : (w3.setCell ⟨w.heap.size, 5, none⟩ v1).heap.size = w3.heap.size := by simp
  have F5 : Fr none_ (w3.setCell ⟨w.heap.size, 5, none⟩ v1) w5 := ((Fr.refl none_ _).alloc (.cells #[] 59)).grown hgr (fun k hk => .inr (by
    have : w3.heap.size = k := by simpa [Value.ownBlock] using hk
    rw [hs]
    omega))
  exact ⟨(h.f3.then_only F1 (.inr (Nat.le_refl _))).then_none F5, own_none (own_fr h.o1 F1 (fun k hk e => own_blk_ne h.o1 h.k0 (by decide) (by rw [hk, show k = w.heap.size from e]))) F5, hown, (h.k0.set_ 5 v1).fr F5 id, (h.k1.fr F1 (only_ne (by simp))).fr F5 id⟩
theorem Reads.old {w : World} {size n : Nat} {A : Option Addr} {xs : List Value} (h : Reads w size A n xs) (hs : 0 < size) (hn : 0 < n) : ∀ ad, A = some ad → ad.block < w.heap.size := by
  intro ad e
  obtain ⟨ad', e', hc⟩ := h.2 hn
  rw [e] at e'
  cases e'
  have hl : 0 < xs.length := by rw [h.1]; exact Nat.mul_pos hn hs
  have := World.block_lt_of_cell? w _ (hc 0 xs[0] (List.getElem?_eq_getElem hl))
  rwa [block_of_add] at this

theorem CloneA.rd5 {w w3 : World} {R : Rc} {vr ve v1 : Value} {A B : Option Addr} (h : CloneA w w3 R vr ve v1 A B) (h0 : RecReads w R A B) : Reads ((w3.setCell ⟨w.heap.size, 5, none⟩ v1).alloc (.cells #[] 59)) 2 B R.ents.length (etFlat R.ents) := by
  rcases Nat.eq_zero_or_pos R.ents.length with hz | hz
  · exact ⟨by rw [etFlat_len], fun hn => by omega⟩
  · exact (h.rd.e.fr (Fr.only1 w3 ⟨w.heap.size, 5, none⟩ v1) (fun ad e => only_ne (by have := h0.e.old (by omega) hz ad e; show ad.block ≠ w.heap.size; omega))).alloc _
def ClonePost (R : Rc) (w : World) (e : Ending) (w' : World) : Prop :=
  ∃ A c B d, e = .returned (recV R (.slice A R.rows.length c) (.slice B R.ents.length d)) ∧ RecOwn w' w.heap.size R (.slice A R.rows.length c) (.slice B R.ents.length d) ∧ Fr none_ w w'
set_option maxHeartbeats 2000000 in
theorem clone_ok (R : Rc) (A : Option Addr) (c : Nat) (B : Option Addr) (d : Nat) (w : World) (h : RecReads w R A B) (hr : R.rows.length ≤ 1000) (he : R.ents.length ≤ 1000) :
    Calls Tryz.prog 8 #[recV R (.slice A R.rows.length c) (.slice B R.ents.length d)] w (ClonePost R w) := by
  obtain ⟨i0, hi0, hz0, hs0, hb0⟩ := info_parts row_info
  obtain ⟨j0, hj0, hy0, ht0, hc0⟩ := info_parts entry_info
  have Hi := hid_ (And.intro hi0 (And.intro hz0 (And.intro hs0 hb0)))
  have Hj := hid_ (And.intro hj0 (And.intro hy0 (And.intro ht0 hc0)))
  have H := hid_ h
  clear hi0 hz0 hs0 hb0 hj0 hy0 ht0 hc0 h
  go_enter Tryz.func8, Tryz.ntmps8
  go_wp2_with (first
    | (at_builtin; refine wpList_append_any _ rfl (.tmp 3) (.tmp 5) 28 rfl w.heap.size 143 i0 _ 2 32 Tryz.underlying28 Hi.out.1 Hi.out.2.1 Hi.out.2.2.1 Hi.out.2.2.2 rfl (by omega) (.slice (some ⟨w.heap.size + 1 + 1, 0, none⟩) 0 0) 0 [] rfl (own_empty_at _ _ _ _ _ (by simp; omega) (by simp)) A R.rows.length c (rwFlat R.rows) rfl (((H.out.r.alloc _).alloc _).alloc _) (rwFlat_one _) (by simp only [maxLen]; omega) (by omega) (by simp; omega) ?_; intro A1 c1 w3 hown3 hgr3; have hp := clone_packA (vr := .slice A R.rows.length c) (ve := .slice B R.ents.length d) H.out hown3 hgr3; have HP := hid_ hp; have e6 : w3.cell? ⟨w.heap.size, 6, none⟩ = some (.slice B R.ents.length d) := hp.k0.cell' rfl; have e5 : w3.cell? ⟨w.heap.size, 5, none⟩ = some (.slice A R.rows.length c) := hp.k0.cell' rfl; have f5 := hp.k0.frozen 5; have l3 := hp.k0.lt; clear hown3 hgr3 hp)
    | (at_builtin; refine wpList_append_any _ rfl (.tmp 8) (.tmp 10) 29 rfl w.heap.size 59 j0 _ 2 24 Tryz.underlying29 Hj.out.1 Hj.out.2.1 Hj.out.2.2.1 Hj.out.2.2.2 rfl (by omega) (.slice (some ⟨w3.heap.size, 0, none⟩) 0 0) 0 [] rfl (own_empty_at _ _ _ _ _ (by simp; omega) (by simp)) B R.ents.length d (etFlat R.ents) rfl (HP.out.rd5 H.out) (etFlat_one _) (by simp only [maxLen]; omega) (by omega) (by simp; omega) ?_; intro A2 c2 w5 hown5 hgr5; have hp := clone_packB HP.out hown5 hgr5; have HQ := hid_ hp; have r0 : w5.cell? ⟨w.heap.size, 0, none⟩ = some (.int .i64 R.kind) := hp.k0.cell' rfl; have r1 : w5.cell? ⟨w.heap.size, 1, none⟩ = some (.string R.low) := hp.k0.cell' rfl; have r2 : w5.cell? ⟨w.heap.size, 2, none⟩ = some (.string R.high) := hp.k0.cell' rfl; have r3 : w5.cell? ⟨w.heap.size, 3, none⟩ = some (.bool R.unb) := hp.k0.cell' rfl; have r4 : w5.cell? ⟨w.heap.size, 4, none⟩ = some (.int .i64 R.right) := hp.k0.cell' rfl; have r5 : w5.cell? ⟨w.heap.size, 5, none⟩ = some (.slice A1 R.rows.length c1) := hp.k0.cell' rfl; have r6 : w5.cell? ⟨w.heap.size, 6, none⟩ = some (.slice B R.ents.length d) := hp.k0.cell' rfl; have r7 : w5.cell? ⟨w.heap.size, 7, none⟩ = some (.string R.key) := hp.k0.cell' rfl; have r8 : w5.cell? ⟨w.heap.size, 8, none⟩ = some (.string R.val) := hp.k0.cell' rfl; have r9 : w5.cell? ⟨w.heap.size, 9, none⟩ = some (.int .i64 R.page) := hp.k0.cell' rfl; have r10 : w5.cell? ⟨w.heap.size, 10, none⟩ = some (.int .i64 R.hpage) := hp.k0.cell' rfl; have r11 : w5.cell? ⟨w.heap.size, 11, none⟩ = some (.int .i64 R.hleft) := hp.k0.cell' rfl; have r12 : w5.cell? ⟨w.heap.size, 12, none⟩ = some (.string R.hkey) := hp.k0.cell' rfl; have r13 : w5.cell? ⟨w.heap.size, 13, none⟩ = some (.int .i64 R.nslot) := hp.k0.cell' rfl; have r14 : w5.cell? ⟨w.heap.size, 14, none⟩ = some (.int .i64 R.ngen) := hp.k0.cell' rfl; have fr6 := hp.k0.frozen 6; have s0 : w5.cell? ⟨w.heap.size + 1, 0, none⟩ = some (.int .i64 0) := hp.k1.cell' rfl; have s1 : w5.cell? ⟨w.heap.size + 1, 1, none⟩ = some (.string nilS) := hp.k1.cell' rfl; have s2 : w5.cell? ⟨w.heap.size + 1, 2, none⟩ = some (.string nilS) := hp.k1.cell' rfl; have s3 : w5.cell? ⟨w.heap.size + 1, 3, none⟩ = some (.bool false) := hp.k1.cell' rfl; have s4 : w5.cell? ⟨w.heap.size + 1, 4, none⟩ = some (.int .i64 0) := hp.k1.cell' rfl; have s5 : w5.cell? ⟨w.heap.size + 1, 5, none⟩ = some (.slice none 0 0) := hp.k1.cell' rfl; have s6 : w5.cell? ⟨w.heap.size + 1, 6, none⟩ = some (.slice none 0 0) := hp.k1.cell' rfl; have s7 : w5.cell? ⟨w.heap.size + 1, 7, none⟩ = some (.string nilS) := hp.k1.cell' rfl; have s8 : w5.cell? ⟨w.heap.size + 1, 8, none⟩ = some (.string nilS) := hp.k1.cell' rfl; have s9 : w5.cell? ⟨w.heap.size + 1, 9, none⟩ = some (.int .i64 0) := hp.k1.cell' rfl; have s10 : w5.cell? ⟨w.heap.size + 1, 10, none⟩ = some (.int .i64 0) := hp.k1.cell' rfl; have s11 : w5.cell? ⟨w.heap.size + 1, 11, none⟩ = some (.int .i64 0) := hp.k1.cell' rfl; have s12 : w5.cell? ⟨w.heap.size + 1, 12, none⟩ = some (.string nilS) := hp.k1.cell' rfl; have s13 : w5.cell? ⟨w.heap.size + 1, 13, none⟩ = some (.int .i64 0) := hp.k1.cell' rfl; have s14 : w5.cell? ⟨w.heap.size + 1, 14, none⟩ = some (.int .i64 0) := hp.k1.cell' rfl; have z0 := hp.k1.frozen 0; have z1 := hp.k1.frozen 1; have z2 := hp.k1.frozen 2; have z3 := hp.k1.frozen 3; have z4 := hp.k1.frozen 4; have z5 := hp.k1.frozen 5; have z6 := hp.k1.frozen 6; have z7 := hp.k1.frozen 7; have z8 := hp.k1.frozen 8; have z9 := hp.k1.frozen 9; have z10 := hp.k1.frozen 10; have z11 := hp.k1.frozen 11; have z12 := hp.k1.frozen 12; have z13 := hp.k1.frozen 13; have z14 := hp.k1.frozen 14; clear hown5 hgr5 hp))
  clear r0 s0 z0 r1 s1 z1 r2 s2 z2 r3 s3 z3 r4 s4 z4 r5 s5 z5 r6 s6 z6 r7 s7 z7 r8 s8 z8 r9 s9 z9 r10 s10 z10 r11 s11 z11 r12 s12 z12 r13 s13 z13 r14 s14 z14 fr6 e5 e6 f5
  have F6 := Fr.only1 w5 ⟨w.heap.size, 6, none⟩ (.slice A2 R.ents.length c2)
  have K1 := HQ.out.k1.fr F6 (only_ne (by simp))
  obtain ⟨qb, qf⟩ := box15 K1 (.int .i64 R.kind) (.string R.low) (.string R.high) (.bool R.unb) (.int .i64 R.right) (.slice A1 R.rows.length c1) (.slice A2 R.ents.length c2) (.string R.key) (.string R.val) (.int .i64 R.page) (.int .i64 R.hpage) (.int .i64 R.hleft) (.string R.hkey) (.int .i64 R.nslot) (.int .i64 R.ngen)
  have q0 := qb.cell' (i := 0) rfl
  have q1 := qb.cell' (i := 1) rfl
  have q2 := qb.cell' (i := 2) rfl
  have q3 := qb.cell' (i := 3) rfl
  have q4 := qb.cell' (i := 4) rfl
  have q5 := qb.cell' (i := 5) rfl
  have q6 := qb.cell' (i := 6) rfl
  have q7 := qb.cell' (i := 7) rfl
  have q8 := qb.cell' (i := 8) rfl
  have q9 := qb.cell' (i := 9) rfl
  have q10 := qb.cell' (i := 10) rfl
  have q11 := qb.cell' (i := 11) rfl
  have q12 := qb.cell' (i := 12) rfl
  have q13 := qb.cell' (i := 13) rfl
  have q14 := qb.cell' (i := 14) rfl
  have O1 := own_fr (own_fr HQ.out.o1 F6 (fun k hk e => own_blk_ne HQ.out.o1 HQ.out.k0 (by decide) (by rw [hk, show k = w.heap.size from e]))) qf (fun k hk e => own_blk_ne HQ.out.o1 HQ.out.k1 (by decide) (by rw [hk, show k = w.heap.size + 1 from e]))
  have O2 := own_fr (own_fr HQ.out.o2 F6 (fun k hk e => own_blk_ne HQ.out.o2 HQ.out.k0 (by decide) (by rw [hk, show k = w.heap.size from e]))) qf (fun k hk e => own_blk_ne HQ.out.o2 HQ.out.k1 (by decide) (by rw [hk, show k = w.heap.size + 1 from e]))
  have G := (HQ.out.f5.then_only F6 (.inr (Nat.le_refl _))).then_only qf (.inr (by omega))
  clear K1 F6 qb qf
  refine bodyPost_ret (v := recV R (.slice A1 R.rows.length c1) (.slice A2 R.ents.length c2)) ?_ rfl ⟨A1, c1, A2, c2, rfl, ⟨O1, O2⟩, G⟩
  simp [results, Tryz.results8, go_sem, q0, q1, q2, q3, q4, q5, q6, q7, q8, q9, q10, q11, q12, q13, q14]
end Go.Proofs.YtfihfjbakfadkaaGreatDoor
namespace Go.Proofs.YtfihfjbakfadkaaGreatDoor
open Go.RowKit
set_option maxRecDepth 100000
set_option linter.unusedVariables false

/-- A slice that holds something lies at an address without a spot. -/
theorem reads_lit {w : World} {size n : Nat} {A : Option Addr} {xs : List Value} (h : Reads w size A n xs) (hs : 0 < size) (hn : 0 < n) : ∃ b off, A = some ⟨b, off, none⟩ ∧ b < w.heap.size ∧ ∀ j u, xs[j]? = some u → w.cell? ⟨b, off + j, none⟩ = some u := by
  obtain ⟨ad, e, hc⟩ := h.2 hn
  have hl : 0 < xs.length := by rw [h.1]; exact Nat.mul_pos hn hs
  have h0 := hc 0 xs[0] (List.getElem?_eq_getElem hl)
  have e0 : ad.add 0 = ad := by simp [Addr.add]
  rw [e0] at h0
  have hspot : ad.spot = none := by
    unfold World.cell? at h0
    split at h0
    · split at h0
      · cases h0
      · rename_i hs; simpa using hs
    · cases h0
  obtain ⟨b, off, sp⟩ := ad
  simp only at hspot
  subst hspot
  exact ⟨b, off, e, World.block_lt_of_cell? w _ h0, fun j u hu => by rw [← add_lit]; exact hc j u hu⟩
theorem rw_at {w : World} {A : Option Addr} {L : List Rw} (h : Reads w 2 A L.length (rwFlat L)) {k : Nat} {p : Rw} (hp : L[k]? = some p) : ∃ b off, A = some ⟨b, off, none⟩ ∧ b < w.heap.size ∧ w.cell? ⟨b, off + k * 2, none⟩ = some (.string p.1) ∧ w.cell? ⟨b, off + k * 2 + 1, none⟩ = some (.string p.2) := by
  obtain ⟨b, off, e, hb, hc⟩ := reads_lit h (by omega) (by have := (List.getElem?_eq_some_iff.1 hp).1; omega)
  obtain ⟨d0, d1⟩ := rwFlat_get L k p hp
  exact ⟨b, off, e, hb, hc _ _ d0, hc _ _ d1⟩
theorem et_at {w : World} {A : Option Addr} {L : List Et} (h : Reads w 2 A L.length (etFlat L)) {k : Nat} {p : Et} (hp : L[k]? = some p) : ∃ b off, A = some ⟨b, off, none⟩ ∧ b < w.heap.size ∧ w.cell? ⟨b, off + k * 2, none⟩ = some (.string p.1) ∧ w.cell? ⟨b, off + k * 2 + 1, none⟩ = some (.int .i64 p.2) := by
  obtain ⟨b, off, e, hb, hc⟩ := reads_lit h (by omega) (by have := (List.getElem?_eq_some_iff.1 hp).1; omega)
  obtain ⟨d0, d1⟩ := etFlat_get L k p hp
  exact ⟨b, off, e, hb, hc _ _ d0, hc _ _ d1⟩

end Go.Proofs.YtfihfjbakfadkaaGreatDoor
namespace Go.Proofs.YtfihfjbakfadkaaGreatDoor
open Go

/-- A world in which all that was there is as it was. -/
structure Wx (w : World) where
  v : World
  h : Fr none_ w v
instance Wx.some_ (w : World) : Nonempty (Wx w) := ⟨⟨w, Fr.refl _ _⟩⟩
def Wx.to {w : World} (x : Wx w) : World := x.v
theorem Wx.fr {w : World} (x : Wx w) : Fr none_ w x.to := x.h
theorem Wx.cell {w : World} (x : Wx w) {b o : Nat} {v : Value} (h : w.cell? ⟨b, o, none⟩ = some v) : x.to.cell? ⟨b, o, none⟩ = some v :=
  (World.cell?_of_block (x.h.block b (World.block_lt_of_cell? w _ h) id)).trans h
section
variable {P : Program} {w : World}
theorem wp_region_quiet_x {id : Nat} {Q : Exit → Act → World → Prop} {a : Act} {l : List Oper} (hm : P.follows .mixedOrders = true) (hB : Region.lexB .any l.toArray = true)
    (h : wpQuiet P l.toArray (fun w' => ∃ x : Wx w, w' = x.to) (fun a' => ∀ w', (∃ x : Wx w, w' = x.to) → Q .normal a' w') l a) : (Code.region id l.toArray true).wp P Q a w :=
  wp_region_quiet (C := fun w' => ∃ x : Wx w, w' = x.to) hm hB ⟨⟨_, (Fr.refl none_ w).drew⟩, rfl⟩ (by simpa using h)
theorem Calls.quiet_x {f : FuncId} {args : Array Value} {x : Wx w} {v : Value}
    (h : Calls P f args x.to fun e w' => e = .returned v ∧ Fr none_ x.to w') : Calls P f args x.to fun e w'' => e = .returned v ∧ ∃ y : Wx w, w'' = y.to :=
  h.mono fun _ w' ⟨he, hf⟩ => ⟨he, ⟨w', x.h.then_none hf⟩, rfl⟩
end
end Go.Proofs.YtfihfjbakfadkaaGreatDoor
namespace Go.Proofs.YtfihfjbakfadkaaGreatDoor
open Go.RowKit Go.BigFrame
set_option maxRecDepth 100000
set_option linter.unusedVariables false

structure Vw where
  low : ByteArray
  high : ByteArray
  unb : Bool
  right : Int
  ents : List Et
  held : Bool
  hp : Int
  hl : Int
  hk : ByteArray
def Vw.zero : Vw := ⟨nilS, nilS, false, 0, [], false, 0, 0, nilS⟩
abbrev vwA (V : Vw) (ve : Value) : Array Value := #[.string V.low, .string V.high, .bool V.unb, .int .i64 V.right, ve, .bool V.held, .int .i64 V.hp, .int .i64 V.hl, .string V.hk]
abbrev vwV (V : Vw) (ve : Value) : Value := .agg (vwA V ve)
def SzOk (s : ByteArray) : Prop := s.size ≤ 9000000000000000000
theorem SzOk.le {s : ByteArray} (h : SzOk s) : s.size ≤ 9000000000000000000 := h
theorem SzOk.nil : SzOk nilS := by unfold SzOk; decide
def EtsOk (L : List Et) : Prop := L.length ≤ 1000 ∧ ∀ p ∈ L, SzOk p.1
structure Vw.Ok (V : Vw) : Prop where
  low : SzOk V.low
  high : SzOk V.high
  hk : SzOk V.hk
  ents : EtsOk V.ents
/-- A view's entries lie where its slice says. -/
structure VwIn (w : World) (V : Vw) (A : Option Addr) (c : Nat) : Prop where
  rd : Reads w 2 A V.ents.length (etFlat V.ents)
  cap : V.ents.length ≤ c
  capm : c ≤ maxLen
  ok : V.Ok
theorem VwIn.keep {w w' : World} {V : Vw} {A : Option Addr} {c : Nat} (h : VwIn w V A c) (hf : Fr none_ w w') : VwIn w' V A c := ⟨h.rd.none_fr hf, h.cap, h.capm, h.ok⟩

/-- How many entries stand ahead of a key. -/
def plN : List Et → ByteArray → Nat
  | [], _ => 0
  | p :: t, key => if ltS p.1 key = true then plN t key + 1 else 0
theorem plN_le : ∀ (L : List Et) (key : ByteArray), plN L key ≤ L.length
  | [], _ => Nat.le_refl _
  | p :: t, key => by
    have := plN_le t key
    rw [plN]
    split <;> simp <;> omega
theorem plN_in : ∀ {L : List Et} {key : ByteArray} {i : Nat} {p : Et}, i < plN L key → L[i]? = some p → ltS p.1 key = true
  | [], _, i, p, h, _ => by simp [plN] at h
  | q :: t, key, i, p, h, hp => by
    rw [plN] at h
    split at h
    · cases i with
      | zero =>
        obtain rfl : q = p := by simpa using hp
        assumption
      | succ i => exact plN_in (L := t) (i := i) (by omega) (by simpa using hp)
    · omega
theorem plN_at : ∀ {L : List Et} {key : ByteArray} {p : Et}, L[plN L key]? = some p → ltS p.1 key = false
  | [], _, p, h => by simp at h
  | q :: t, key, p, h => by
    rw [plN] at h
    split at h
    · exact plN_at (L := t) (by simpa using h)
    · obtain rfl : q = p := by simpa using h
      rename_i h1
      simpa using h1
def atB (L : List Et) (key : ByteArray) : Bool :=
  match L[plN L key]? with
  | some p => sEq p.1 key
  | none => false
theorem atB_some {L : List Et} {key : ByteArray} {p : Et} (h : L[plN L key]? = some p) : atB L key = sEq p.1 key := by simp [atB, h]
theorem atB_none {L : List Et} {key : ByteArray} (h : plN L key = L.length) : atB L key = false := by simp [atB, h]

set_option maxHeartbeats 4000000 in
theorem place_ok (V : Vw) (A : Option Addr) (c : Nat) (key : ByteArray) (w : World) (h : VwIn w V A c) (hk : SzOk key) :
    Calls Tryz.prog 112 #[vwV V (.slice A V.ents.length c), .string key] w fun e w' => e = .returned (.tuple #[.int .i64 (plN V.ents key : Nat), .bool (atB V.ents key)]) ∧ Fr none_ w w' := by
  obtain ⟨w0, hw0⟩ : ∃ w0, w0 = w.alloc (.cells (vwA V (.slice A V.ents.length c)) 38) := ⟨_, rfl⟩
  have f0 : Fr none_ w w0 := by rw [hw0]; exact (Fr.refl none_ w).alloc _
  have F0 := hid_ f0
  have H0 := hid_ (h.keep f0)
  have B0 : Hid (Blk w0 w.heap.size 38 (vwA V (.slice A V.ents.length c))) := hid_ (by rw [hw0]; exact Blk.new w _ _)
  have hle := plN_le V.ents key
  have h1000 := h.ok.ents.1
  have HSZ := hid_ (And.intro h.ok.ents.2 hk)
  clear h f0 hk
  go_enter Tryz.func112, Tryz.ntmps112
  go_wp2_with fail
  change Code.wp _ _ _ _ (w.alloc (.cells (vwA V (.slice A V.ents.length c)) 38))
  rw [← hw0]
  clear hw0
  go_loopw [6] (fun i wr => ∃ k : Nat, k ≤ plN V.ents key ∧ i = .int .i64 k ∧ Fr none_ w0 wr) (fun i _ => plN V.ents key - (intOf i).toNat)
  case atStart => exact ⟨0, Nat.zero_le _, rfl, Fr.refl _ _⟩
  case round =>
    obtain ⟨k, hk, rfl, hF⟩ := hrel
    have B := hid_ (B0.out.fr hF id)
    have H := hid_ (H0.out.keep hF)
    have F := hid_ hF
    clear hF
    have v4 : wr.cell? ⟨w.heap.size, 4, none⟩ = some (.slice A V.ents.length c) := B.out.cell' rfl
    have hi0 : (0 : Int) ≤ (k : Int) := Int.natCast_nonneg _
    by_cases hlt : k < plN V.ents key
    · have hkl : k < V.ents.length := by omega
      have hi1 : (k : Int) < (V.ents.length : Int) := by omega
      have hd1 : decide ((k : Int) < (V.ents.length : Int)) = true := by simp; omega
      obtain ⟨p, hp⟩ : ∃ p, V.ents[k]? = some p := ⟨_, List.getElem?_eq_getElem hkl⟩
      obtain ⟨b, off, rfl, hb, c0, c1⟩ := et_at H.out.rd hp
      have hcmp : decide (cmpI p.1 key < 0) = true := by rw [cmp_neg]; exact plN_in hlt hp
      have hsz := HSZ.out.1 p (List.mem_of_getElem? hp)
      have HCMP := hid_ hcmp
      clear hp hcmp c1
      go_wp2_with fail
      refine (compare_ok p.1 key _ hsz.le HSZ.out.2.le).mono ?_
      rintro e w1 ⟨rfl, q, rfl⟩
      have hcmp := HCMP.out
      have FQ := hid_ (F.out.drewN q)
      clear v4 c0
      go_wp2_with fail
      go_roundw
      case rel => exact ⟨k + 1, by omega, by go_num, FQ.out⟩
      case measure => simp [intOf]; omega
    · obtain rfl : k = plN V.ents key := by omega
      by_cases hl : plN V.ents key < V.ents.length
      · obtain ⟨p, hp⟩ : ∃ p, V.ents[plN V.ents key]? = some p := ⟨_, List.getElem?_eq_getElem hl⟩
        obtain ⟨b, off, rfl, hb, c0, c1⟩ := et_at H.out.rd hp
        have hcmp : decide (cmpI p.1 key < 0) = false := by rw [cmp_neg]; exact plN_at hp
        have hsz := HSZ.out.1 p (List.mem_of_getElem? hp)
        have hat := atB_some hp
        obtain ⟨n, hn⟩ : ∃ n, n = plN V.ents key := ⟨_, rfl⟩
        have hi1 : (n : Int) < (V.ents.length : Int) := by omega
        have hd1 : decide ((n : Int) < (V.ents.length : Int)) = true := by simp; omega
        have hd2 : decide (n < V.ents.length) = true := by simp; omega
        rw [← hn] at c0 c1 hi0
        rw [← hn]
        have HCMP := hid_ hcmp
        have HAT := hid_ hat
        have HN := hid_ hn
        clear hp hcmp c1 hl hlt hat hn hk hle
        go_wp2_with fail
        refine (compare_ok p.1 key _ hsz.le HSZ.out.2.le).mono ?_
        rintro e w1 ⟨rfl, q, rfl⟩
        have hcmp := HCMP.out
        have FQ := hid_ (F.out.drewN q)
        go_wp2_with fail
        go_quiet (fail)
        go_wp2_with fail
        go_ret2
        exact ⟨by rw [HAT.out, ← HN.out]; rfl, F0.out.then_none (by repeat (first | exact FQ.out | apply Fr.drewN | apply Fr.drew))⟩
      · have he : plN V.ents key = V.ents.length := by omega
        have hat := atB_none he
        have HAT := hid_ hat
        have HE := hid_ he
        have hd1 : decide ((V.ents.length : Int) < (V.ents.length : Int)) = false := by simp
        rw [he]
        clear he hat hl hlt hk hle
        go_wp2_with fail
        go_quiet (fail)
        go_wp2_with fail
        go_ret2
        exact ⟨by rw [HAT.out, HE.out]; rfl, F0.out.then_none (by repeat (first | exact F.out | apply Fr.drewN | apply Fr.drew))⟩

theorem vin_ok (V : Vw) (ve : Value) (key : ByteArray) (w : World) (h1 : SzOk V.low) (h2 : SzOk V.high) (h3 : SzOk key) :
    Calls Tryz.prog 111 #[vwV V ve, .string key] w fun e w' => e = .returned (.bool (inS V.low V.high V.unb key)) ∧ Fr none_ w w' := by
  have F0 := hid_ ((Fr.refl none_ w).alloc (.cells (vwA V ve) 38))
  have H := hid_ (And.intro h1 (And.intro h2 h3))
  clear h1 h2 h3
  go_enter Tryz.func111, Tryz.ntmps111
  go_wp2_with fail
  refine (in_ok V.low V.high V.unb key _ H.out.1.le H.out.2.1.le H.out.2.2.le).mono ?_
  rintro e w1 ⟨rfl, q, rfl⟩
  go_wp2
  go_ret
  exact ⟨rfl, F0.out.drewN q⟩
/-- What sound says of a view. -/
structure Sound (V : Vw) : Prop where
  head : ∃ p, V.ents[0]? = some p ∧ p.1 = V.low
  high : V.unb = true → V.high = nilS
  inn : ∀ p ∈ V.ents, inS V.low V.high V.unb p.1 = true
  ris : ∀ (i : Nat) (p q : Et), V.ents[i]? = some p → V.ents[i + 1]? = some q → ltS p.1 q.1 = true
def SoundTo (V : Vw) (k : Nat) : Prop := (∀ (j : Nat) (p : Et), j < k → V.ents[j]? = some p → inS V.low V.high V.unb p.1 = true) ∧ ∀ (j : Nat) (p q : Et), j + 1 < k → V.ents[j]? = some p → V.ents[j + 1]? = some q → ltS p.1 q.1 = true
def SoundPost (V : Vw) (w : World) (e : Ending) (w' : World) : Prop := ∃ b : Bool, e = .returned (.bool b) ∧ (b = true ↔ Sound V) ∧ Fr none_ w w'
set_option maxHeartbeats 4000000 in
theorem sound_ok (V : Vw) (A : Option Addr) (c : Nat) (w : World) (h : VwIn w V A c) :
    Calls Tryz.prog 69 #[vwV V (.slice A V.ents.length c)] w (SoundPost V w) := by
  obtain ⟨w0, hw0⟩ : ∃ w0, w0 = w.alloc (.cells (vwA V (.slice A V.ents.length c)) 38) := ⟨_, rfl⟩
  have f0 : Fr none_ w w0 := by rw [hw0]; exact (Fr.refl none_ w).alloc _
  have F0 := hid_ f0
  have H0 := hid_ (h.keep f0)
  have B0 : Hid (Blk w0 w.heap.size 38 (vwA V (.slice A V.ents.length c))) := hid_ (by rw [hw0]; exact Blk.new w _ _)
  have h1000 := h.ok.ents.1
  have OK := hid_ h.ok
  have v0 : w0.cell? ⟨w.heap.size, 0, none⟩ = some (.string V.low) := B0.out.cell' rfl
  have v1 : w0.cell? ⟨w.heap.size, 1, none⟩ = some (.string V.high) := B0.out.cell' rfl
  have v2 : w0.cell? ⟨w.heap.size, 2, none⟩ = some (.bool V.unb) := B0.out.cell' rfl
  have v4 : w0.cell? ⟨w.heap.size, 4, none⟩ = some (.slice A V.ents.length c) := B0.out.cell' rfl
  clear h f0
  by_cases hl0 : V.ents.length = 0
  · have hne : ¬ Sound V := fun h => by
      obtain ⟨p, hp, _⟩ := h.head
      rw [List.getElem?_eq_none (by omega)] at hp
      cases hp
    have HNE := hid_ hne
    rw [hl0] at v4 hw0
    rw [hl0]
    clear hl0 hne
    go_enter Tryz.func69, Tryz.ntmps69
    go_wp2_with fail
    change Code.wp _ _ _ _ (w.alloc (.cells (vwA V (.slice A 0 c)) 38))
    rw [← hw0]
    clear hw0
    go_quiet (fail)
    go_wp2_with fail
    go_ret
    exact ⟨false, rfl, ⟨(fun h => by cases h), fun h => absurd h HNE.out⟩, F0.out.drewN _⟩
  obtain ⟨p0, hp0⟩ : ∃ p, V.ents[0]? = some p := ⟨_, List.getElem?_eq_getElem (by omega)⟩
  obtain ⟨b, off, rfl, hb, c0, c1⟩ := et_at H0.out.rd hp0
  have hd0 : decide ((0 : Int) < (V.ents.length : Int)) = true := by simp; omega
  have hd0' : ((V.ents.length : Int) == 0) = false := beq_eq_false_iff_ne.2 (by omega)
  have hi1 : (0 : Int) < (V.ents.length : Int) := by omega
  simp only [Nat.zero_mul, Nat.add_zero] at c0
  have HP0 := hid_ hp0
  have HL0 := hid_ hl0
  clear hp0 c1 hl0
  by_cases hlow : p0.1 = V.low
  case neg =>
    have hne : ¬ Sound V := fun h => by
      obtain ⟨p, hp, e⟩ := h.head
      rw [HP0.out] at hp
      cases hp
      exact hlow e
    have HNE := hid_ hne
    have hs1 := sEq_ne hlow
    unfold sEq at hs1
    have hs2 : (p0.1.toList != V.low.toList) = true := by simpa [bne] using hs1
    clear hne hlow
    go_enter Tryz.func69, Tryz.ntmps69
    go_wp2_with fail
    change Code.wp _ _ _ _ (w.alloc (.cells (vwA V (.slice (some ⟨b, off, none⟩) V.ents.length c)) 38))
    rw [← hw0]
    clear hw0
    go_quiet (fail)
    go_wp2_with fail
    go_ret
    exact ⟨false, rfl, ⟨(fun h => by cases h), fun h => absurd h HNE.out⟩, F0.out.drewN _⟩
  have hs1 : (p0.1.toList == V.low.toList) = true := sEq_iff.2 hlow
  have hs2 : (p0.1.toList != V.low.toList) = false := by simpa [bne] using hs1
  have HLOW := hid_ hlow
  clear hlow
  by_cases hhi : V.unb = true ∧ V.high ≠ nilS
  · have hne : ¬ Sound V := fun h => hhi.2 (h.high hhi.1)
    have HNE := hid_ hne
    rw [hhi.1] at v2
    have hh : V.high.toList.isEmpty = false := by
      cases e : V.high.toList.isEmpty with
      | false => rfl
      | true => exact absurd (ba_eq (by rw [← ba_toList, List.isEmpty_iff.1 e])) hhi.2
    have hh2 : (!V.high.toList.isEmpty) = true := by rw [hh]; rfl
    clear hne hhi
    go_enter Tryz.func69, Tryz.ntmps69
    go_wp2_with fail
    change Code.wp _ _ _ _ (w.alloc (.cells (vwA V (.slice (some ⟨b, off, none⟩) V.ents.length c)) 38))
    rw [← hw0]
    clear hw0
    go_quiet (fail)
    go_wp2_with fail
    go_ret
    exact ⟨false, rfl, ⟨(fun h => by cases h), fun h => absurd h HNE.out⟩, F0.out.drewN _⟩
  have HHI : Hid (V.unb = true → V.high = nilS) := hid_ (fun hu => Classical.byContradiction fun hn => hhi ⟨hu, hn⟩)
  clear hhi
  go_enter Tryz.func69, Tryz.ntmps69
  go_upto_region 1 with fail
  change Code.wp _ _ _ _ (w.alloc (.cells (vwA V (.slice (some ⟨b, off, none⟩) V.ents.length c)) 38))
  rw [← hw0]
  clear hw0
  go_cut [27] (fun v wq => v = .bool false ∧ Fr none_ w0 wq)
  case first =>
    cases hu : V.unb with
    | false =>
      rw [hu] at v2
      clear hu
      go_quiet (fail)
      go_wp2
      go_meet
      case rel => exact ⟨rfl, (Fr.refl none_ w0).drewN _⟩
    | true =>
      have hh := HHI.out hu
      rw [hu] at v2
      rw [hh] at v1
      clear hu hh
      go_quiet (fail)
      go_wp2
      go_meet
      case rel => exact ⟨rfl, (Fr.refl none_ w0).drewN _⟩
  case rest =>
  obtain ⟨rfl, hf⟩ := hcut
  have B1 := hid_ (B0.out.fr hf id)
  have F1 := hid_ (F0.out.then_none hf)
  have H1 := hid_ (H0.out.keep hf)
  clear hf v0 v1 v2 v4 c0 hs1 hs2 hd0 hd0'
  have v4 : wc.cell? ⟨w.heap.size, 4, none⟩ = some (.slice (some ⟨b, off, none⟩) V.ents.length c) := B1.out.cell' rfl
  go_wp2_with fail
  clear v4 F0 H0 B0
  go_loopw [31] (fun i wr => ∃ k : Nat, k ≤ V.ents.length ∧ i = .int .i64 k ∧ SoundTo V k ∧ Fr none_ wc wr) (fun i _ => V.ents.length - (intOf i).toNat)
  case atStart => exact ⟨0, Nat.zero_le _, rfl, ⟨fun j p hj => by omega, fun j p q hj => by omega⟩, Fr.refl _ _⟩
  case round =>
    obtain ⟨k, hk, rfl, hst, hF⟩ := hrel
    have ST := hid_ hst
    have B := hid_ (B1.out.fr hF id)
    have H := hid_ (H1.out.keep hF)
    have F := hid_ (F1.out.then_none hF)
    have FC := hid_ hF
    clear hst hF
    have hi0 : (0 : Int) ≤ (k : Int) := Int.natCast_nonneg _
    by_cases hlt : k < V.ents.length
    · have hi1' : (k : Int) < (V.ents.length : Int) := by omega
      obtain ⟨p, hp⟩ : ∃ p, V.ents[k]? = some p := ⟨_, List.getElem?_eq_getElem hlt⟩
      obtain ⟨b2, off2, hA, hb2, c0, c1⟩ := et_at H.out.rd hp
      obtain ⟨rfl, rfl⟩ : b = b2 ∧ off = off2 := by injection hA with hA; injection hA with e1 e2; exact ⟨e1, e2⟩
      have HP := hid_ hp
      clear hp hA
      go_upto_region 6 with fail
      obtain ⟨X, hX⟩ : ∃ X, X = wr.heap.size := ⟨_, rfl⟩
      obtain ⟨w2, hw2⟩ : ∃ w2, w2 = wr.alloc (.cells #[.string p.1, .int .i64 p.2] 59) := ⟨_, rfl⟩
      have f2 : Fr none_ wr w2 := by rw [hw2]; exact (Fr.refl none_ wr).alloc _
      have BX : Hid (Blk w2 X 59 #[.string p.1, .int .i64 p.2]) := hid_ (by rw [hw2, hX]; exact Blk.new wr _ _)
      have B2 := hid_ (B.out.fr f2 id)
      have H2 := hid_ (H.out.keep f2)
      have F2 := hid_ (FC.out.then_none f2)
      rw [← hX]
      change Code.wp _ _ _ _ (wr.alloc (.cells #[.string p.1, .int .i64 p.2] 59))
      rw [← hw2]
      clear hw2 hX f2 c0 c1
      have hpk := OK.out.ents.2 p (List.mem_of_getElem? HP.out)
      have HPK := hid_ hpk
      clear hpk
      go_cut [57] (fun v wq => ∃ bb : Bool, v = .bool bb ∧ (bb = false ↔ (inS V.low V.high V.unb p.1 = true ∧ ∀ q, 0 < k → V.ents[k - 1]? = some q → ltS q.1 p.1 = true)) ∧ Fr none_ w2 wq)
      case first =>
        have v0 : w2.cell? ⟨w.heap.size, 0, none⟩ = some (.string V.low) := B2.out.cell' rfl
        have v1 : w2.cell? ⟨w.heap.size, 1, none⟩ = some (.string V.high) := B2.out.cell' rfl
        have v2 : w2.cell? ⟨w.heap.size, 2, none⟩ = some (.bool V.unb) := B2.out.cell' rfl
        have v3 : w2.cell? ⟨w.heap.size, 3, none⟩ = some (.int .i64 V.right) := B2.out.cell' rfl
        have v4 : w2.cell? ⟨w.heap.size, 4, none⟩ = some (.slice (some ⟨b, off, none⟩) V.ents.length c) := B2.out.cell' rfl
        have v5 : w2.cell? ⟨w.heap.size, 5, none⟩ = some (.bool V.held) := B2.out.cell' rfl
        have v6 : w2.cell? ⟨w.heap.size, 6, none⟩ = some (.int .i64 V.hp) := B2.out.cell' rfl
        have v7 : w2.cell? ⟨w.heap.size, 7, none⟩ = some (.int .i64 V.hl) := B2.out.cell' rfl
        have v8 : w2.cell? ⟨w.heap.size, 8, none⟩ = some (.string V.hk) := B2.out.cell' rfl
        have x0 : w2.cell? ⟨X, 0, none⟩ = some (.string p.1) := BX.out.cell' rfl
        have y0 : ∀ x : Wx w2, x.to.cell? ⟨w.heap.size, 0, none⟩ = some (.string V.low) := fun x => x.cell v0
        have y1 : ∀ x : Wx w2, x.to.cell? ⟨w.heap.size, 1, none⟩ = some (.string V.high) := fun x => x.cell v1
        have y2 : ∀ x : Wx w2, x.to.cell? ⟨w.heap.size, 2, none⟩ = some (.bool V.unb) := fun x => x.cell v2
        have y3 : ∀ x : Wx w2, x.to.cell? ⟨w.heap.size, 3, none⟩ = some (.int .i64 V.right) := fun x => x.cell v3
        have y4 : ∀ x : Wx w2, x.to.cell? ⟨w.heap.size, 4, none⟩ = some (.slice (some ⟨b, off, none⟩) V.ents.length c) := fun x => x.cell v4
        have y5 : ∀ x : Wx w2, x.to.cell? ⟨w.heap.size, 5, none⟩ = some (.bool V.held) := fun x => x.cell v5
        have y6 : ∀ x : Wx w2, x.to.cell? ⟨w.heap.size, 6, none⟩ = some (.int .i64 V.hp) := fun x => x.cell v6
        have y7 : ∀ x : Wx w2, x.to.cell? ⟨w.heap.size, 7, none⟩ = some (.int .i64 V.hl) := fun x => x.cell v7
        have y8 : ∀ x : Wx w2, x.to.cell? ⟨w.heap.size, 8, none⟩ = some (.string V.hk) := fun x => x.cell v8
        have z0 : ∀ x : Wx w2, x.to.cell? ⟨X, 0, none⟩ = some (.string p.1) := fun x => x.cell x0
        clear v0 v1 v2 v3 v4 v5 v6 v7 v8 x0
        cases hin : inS V.low V.high V.unb p.1 with
        | false =>
          have HC : Hid (∀ x : Wx w2, Calls Tryz.prog 111 #[vwV V (.slice (some ⟨b, off, none⟩) V.ents.length c), .string p.1] x.to fun e w' => e = .returned (.bool false) ∧ Fr none_ x.to w') := hid_ (fun x => by
            have h := vin_ok V (.slice (some ⟨b, off, none⟩) V.ents.length c) p.1 x.to OK.out.low OK.out.high HPK.out
            rwa [hin] at h)
          have HIN := hid_ hin
          clear hin
          refine wp_region_quiet_x (by kernel_rfl) (by kernel_rfl) ?_
          repeat (first | go_big_quiet_step ((go_at_call 111; exact Calls.quiet_x (HC.out _))) | quiet_step ((go_at_call 111; exact Calls.quiet_x (HC.out _))))
          refine wpQuiet_nil ?_
          intro _ hw'
          obtain ⟨xq, hw''⟩ := hw'
          subst hw''
          go_wp2
          go_meet
          case rel => exact ⟨true, rfl, ⟨(fun h => by cases h), fun h => by rw [HIN.out] at h; cases h.1⟩, xq.fr⟩
        | true =>
          have HC : Hid (∀ x : Wx w2, Calls Tryz.prog 111 #[vwV V (.slice (some ⟨b, off, none⟩) V.ents.length c), .string p.1] x.to fun e w' => e = .returned (.bool true) ∧ Fr none_ x.to w') := hid_ (fun x => by
            have h := vin_ok V (.slice (some ⟨b, off, none⟩) V.ents.length c) p.1 x.to OK.out.low OK.out.high HPK.out
            rwa [hin] at h)
          have HIN := hid_ hin
          clear hin
          by_cases hk0 : 0 < k
          · obtain ⟨q, hq⟩ : ∃ q, V.ents[k - 1]? = some q := ⟨_, List.getElem?_eq_getElem (by omega)⟩
            obtain ⟨b3, off3, hA, hb3, d0, d1⟩ := et_at H2.out.rd hq
            obtain ⟨rfl, rfl⟩ : b = b3 ∧ off = off3 := by injection hA with hA; injection hA with e1 e2; exact ⟨e1, e2⟩
            have e0 : ∀ x : Wx w2, x.to.cell? ⟨b, off + (k - 1) * 2, none⟩ = some (.string q.1) := fun x => x.cell d0
            have hqk := OK.out.ents.2 q (List.mem_of_getElem? hq)
            have HQK := hid_ hqk
            have HQ := hid_ hq
            have HQ' : Hid ((∀ q', 0 < k → V.ents[k - 1]? = some q' → ltS q'.1 p.1 = true) ↔ ltS q.1 p.1 = true) := hid_ ⟨fun h => h q hk0 hq, fun h q' _ hq' => by rw [hq] at hq'; cases hq'; exact h⟩
            have HC2 : Hid (∀ x : Wx w2, Calls Tryz.prog 85 #[.string q.1, .string p.1] x.to fun e w' => e = .returned (.int .i64 (cmpI q.1 p.1)) ∧ Fr none_ x.to w') := hid_ (fun x => (compare_ok q.1 p.1 x.to HQK.out.le HPK.out.le).mono (by rintro e w' ⟨rfl, n, rfl⟩; exact ⟨rfl, (Fr.refl none_ _).drewN n⟩))
            have hw1 : IntKind.i64.wrap ((k : Int) - 1) = ((k - 1 : Nat) : Int) := by rw [show (k : Int) - 1 = ((k - 1 : Nat) : Int) by omega]; exact IntWalk.i64_in _ (by omega)
            have hdk : decide (0 < k) = true := decide_eq_true hk0
            have hj0 : (0 : Int) ≤ ((k - 1 : Nat) : Int) := Int.natCast_nonneg _
            have hj1 : ((k - 1 : Nat) : Int) < (V.ents.length : Int) := by omega
            obtain ⟨j, hj⟩ : ∃ j, j = k - 1 := ⟨_, rfl⟩
            rw [← hj] at e0 hw1 hj0 hj1
            have HJ := hid_ hj
            have hge := cmp_ge q.1 p.1
            have HGE := hid_ hge
            clear hq hA d0 d1 hqk hj hge hk0
            refine wp_region_quiet_x (by kernel_rfl) (by kernel_rfl) ?_
            repeat (first | go_big_quiet_step ((first | (go_at_call 111; exact Calls.quiet_x (HC.out _)) | (go_at_call 85; exact Calls.quiet_x (HC2.out _)))) | quiet_step ((first | (go_at_call 111; exact Calls.quiet_x (HC.out _)) | (go_at_call 85; exact Calls.quiet_x (HC2.out _)))))
            refine wpQuiet_nil ?_
            intro _ hw'
            obtain ⟨xq, hw''⟩ := hw'
            subst hw''
            go_wp2
            go_meet
            case rel => exact ⟨_, rfl, by
              rw [HGE.out, HIN.out, HQ'.out]
              cases ltS q.1 p.1 <;> simp, xq.fr⟩
          · have hdk : decide (0 < k) = false := decide_eq_false hk0
            have hk0' : k = 0 := by omega
            have HK0 := hid_ hk0'
            clear hk0 hk0'
            refine wp_region_quiet_x (by kernel_rfl) (by kernel_rfl) ?_
            repeat (first | go_big_quiet_step ((go_at_call 111; exact Calls.quiet_x (HC.out _))) | quiet_step ((go_at_call 111; exact Calls.quiet_x (HC.out _))))
            refine wpQuiet_nil ?_
            intro _ hw'
            obtain ⟨xq, hw''⟩ := hw'
            subst hw''
            go_wp2
            go_meet
            case rel => exact ⟨false, rfl, ⟨fun _ => ⟨HIN.out, fun q h => by have := HK0.out; omega⟩, fun _ => rfl⟩, xq.fr⟩
      case rest =>
      obtain ⟨bb, rfl, hbb, hf⟩ := hcut
      have F3 := hid_ (F2.out.then_none hf)
      have HB := hid_ hbb
      clear hf hbb B2 H2 BX F2
      cases bb with
      | true =>
        have hns : ¬ Sound V := fun hS => by
          have h := HB.out.2 ⟨hS.inn p (List.mem_of_getElem? HP.out), fun q h0 hq => hS.ris (k - 1) q p hq (by rw [show k - 1 + 1 = k by omega]; exact HP.out)⟩
          cases h
        have HNS := hid_ hns
        clear hns
        go_wp2_with fail
        go_ret
        exact ⟨false, rfl, ⟨(fun h => by cases h), fun h => absurd h HNS.out⟩, F1.out.then_none F3.out⟩
      | false =>
        have hst : SoundTo V (k + 1) := by
          have h := HB.out.1 rfl
          refine ⟨fun j p' hj hp' => ?_, fun j p' q hj hp' hq => ?_⟩
          · rcases Nat.lt_succ_iff_lt_or_eq.1 hj with hj | rfl
            · exact ST.out.1 j p' hj hp'
            · rw [HP.out] at hp'; cases hp'; exact h.1
          · rcases Nat.lt_succ_iff_lt_or_eq.1 hj with hj | hj
            · exact ST.out.2 j p' q hj hp' hq
            · rw [hj, HP.out] at hq
              cases hq
              exact h.2 p' (by omega) (by rw [show k - 1 = j by omega]; exact hp')
        have HST := hid_ hst
        clear hst
        go_wp2_with fail
        go_roundw
        case rel => exact ⟨k + 1, by omega, by go_num, HST.out, F3.out⟩
        case measure => simp [intOf]; omega
    · obtain rfl : k = V.ents.length := by omega
      have hS : Sound V := ⟨⟨p0, HP0.out, HLOW.out⟩, HHI.out, fun p hp => by obtain ⟨j, hj, e⟩ := List.mem_iff_getElem.1 hp; exact ST.out.1 j p hj (by rw [List.getElem?_eq_getElem hj, e]), fun j p q hp hq => ST.out.2 j p q (List.getElem?_eq_some_iff.1 hq).1 hp hq⟩
      have HS := hid_ hS
      clear hS
      go_wp2_with fail
      go_ret
      exact ⟨true, rfl, ⟨fun _ => HS.out, fun _ => rfl⟩, F.out⟩
end Go.Proofs.YtfihfjbakfadkaaGreatDoor
namespace Go.Proofs.YtfihfjbakfadkaaGreatDoor
open Go

section
variable {P : Program} {md : Region.Mode} {ops : Array Oper} {Q : Exit → Act → World → Prop} {S : World → Prop}
def wpAnyT (P : Program) (md : Region.Mode) (ops : Array Oper) (Q : Exit → Act → World → Prop) (S : World → Prop) (m : Nat) : Nat → Array Bool → Act → World → Prop
  | 0, listed, a, w => Region.ready md ops listed = [] ∧ Q .normal a w
  | fuel + 1, listed, a, w =>
    (Region.ready md ops listed = [] → Q .normal a w) ∧
    ∀ i ∈ Region.ready md ops listed, wpOp P ops Q i (fun a' w' => (i = m ∨ S w') ∧ wpAnyT P md ops Q S m fuel (listed.setIfInBounds i true) a' w') a w
theorem wpAny_of_T {m : Nat} : ∀ (fuel : Nat) (listed : Array Bool) (a : Act) (w : World), wpAnyT P md ops Q S m fuel listed a w → wpAny P md ops Q fuel listed a w
  | 0, _, _, _, h => h
  | fuel + 1, _, _, _, h => ⟨h.1, fun i hi => wpOp_mono (fun a' w' h' => wpAny_of_T fuel _ a' w' h'.2) (h.2 i hi)⟩
/-- A read may be taken first: the last operation waits for it, so S holds behind whatever comes up ahead of it. -/
theorem wpAnyT_first {m i : Nat} {oi : Oper} {v : Value} (hi : ops[i]? = some oi) (hsel : ∀ (j : Nat) (o : Oper) cs b, ops[j]? = some o → o.op ≠ .select cs b)
    (hQ : ∀ c a w, Q (.panic c) (a.put oi.dst v) w → Q (.panic c) a w) (hm : ∃ om, ops[m]? = some om ∧ ∃ e ∈ om.after, Region.binds md e = true ∧ e.on = i) :
    ∀ (fuel : Nat) (listed : Array Bool) (a : Act) (w : World),
      (∀ j oj, ops[j]? = some oj → j ≠ i → listed.getD j true = false → (∀ e ∈ oj.after, Region.binds md e = true → e.on ≠ i) → oi.apart ops oj = true) →
      i ∈ Region.ready md ops listed → YieldsIf P ops S oi v a → S w →
      wpAnyT P md ops Q S m fuel (listed.setIfInBounds i true) (a.put oi.dst v) w → wpAnyT P md ops Q S m (fuel + 1) listed a w := by
  intro fuel
  induction fuel with
  | zero =>
    intro listed a w _ hr hy hS H
    refine ⟨fun h => (by rw [h] at hr; cases hr), fun j hj => ?_⟩
    by_cases hji : j = i
    · subst hji; exact hy.wpOp hi hS ⟨.inr hS, H⟩
    · have := ready_mono hj hji
      rw [H.1] at this
      cases this
  | succ fuel ih =>
    intro listed a w hfree hr hy hS H
    refine ⟨fun h => (by rw [h] at hr; cases hr), fun j hj => ?_⟩
    by_cases hji : j = i
    · subst hji; exact hy.wpOp hi hS ⟨.inr hS, H⟩
    · have h1 := H.2 j (ready_mono hj hji)
      obtain ⟨hjun, oj, hoj, hall⟩ := mem_ready.1 hj
      have hnot : ∀ e ∈ oj.after, Region.binds md e = true → e.on ≠ i := fun e he hb heq => by
        have h1 := hall e he hb
        have h0 := (mem_ready.1 hr).1
        rw [heq] at h1
        rcases Nat.lt_or_ge i listed.size with h' | h'
        · simp [h'] at h0 h1; rw [h0] at h1; cases h1
        · simp [Array.getElem?_eq_none h'] at h1
      have hjm : j ≠ m := by
        rintro rfl
        obtain ⟨om, hom, e, he, hb, heq⟩ := hm
        obtain rfl := Option.some.inj (hoj.symm.trans hom)
        exact hnot e he hb heq
      have h2 := wpOp_putIf hoj (hfree j oj hoj hji hjun hnot) (fun cs b => hsel i oi cs b hi) (fun cs b => hsel j oj cs b hoj) hQ hy h1
      have hfree' : ∀ k ok, ops[k]? = some ok → k ≠ i → (listed.setIfInBounds j true).getD k true = false →
          (∀ e ∈ ok.after, Region.binds md e = true → e.on ≠ i) → oi.apart ops ok = true := fun k ok hk hki hun hno => by
        refine hfree k ok hk hki ?_ hno
        by_cases hjk : j = k
        · subst hjk; exact hjun
        · rw [getD_set_ne true hjk] at hun; exact hun
      refine wpOp_mono (fun a' w' h3 => ?_) h2
      have hs : S w' := h3.2.1.resolve_left hjm
      refine ⟨.inr hs, ih (listed.setIfInBounds j true) a' w' hfree' (ready_mono hr (Ne.symm hji)) h3.1 hs ?_⟩
      rw [Array.setIfInBounds_comm _ _ hji]
      exact h3.2.2
/-- Take number i first (the side conditions as Bools). -/
theorem wpAnyT_take {m i : Nat} {oi : Oper} {v : Value} {fuel : Nat} {listed : Array Bool} {a : Act} {w : World} (hi : ops[i]? = some oi)
    (hs : Region.noSelect ops = true) (hf : Region.free md ops listed i = true) (hr : (Region.ready md ops listed).contains i = true)
    (hm : (ops[m]?.any fun om => om.after.any fun e => Region.binds md e && e.on == i) = true)
    (hQ : ∀ c a w, Q (.panic c) (a.put oi.dst v) w → Q (.panic c) a w) (hy : YieldsIf P ops S oi v a) (hS : S w)
    (h : wpAnyT P md ops Q S m fuel (listed.setIfInBounds i true) (a.put oi.dst v) w) : wpAnyT P md ops Q S m (fuel + 1) listed a w :=
  wpAnyT_first hi (Region.noSelect_spec hs) hQ (by
    cases ho : ops[m]? with
    | none => rw [ho] at hm; cases hm
    | some om =>
      rw [ho] at hm
      have hm' : (om.after.any fun e => Region.binds md e && e.on == i) = true := hm
      obtain ⟨e, he, hb⟩ := Array.any_eq_true'.1 hm'
      simp at hb
      exact ⟨om, rfl, e, he, hb.1, hb.2⟩) fuel listed a w (Region.free_spec hi hf) (by simpa using hr) hy hS h
/-- Whatever has come up, all that it waits for has come up. -/
def closedB (md : Region.Mode) (ops : Array Oper) (listed : Array Bool) : Bool :=
  (List.range ops.size).all fun k => !listed.getD k false || (match ops[k]? with | some o => o.after.all fun e => !Region.binds md e || listed.getD e.on false | none => true)
/-- Does m wait for i, by whatever way? -/
def waitsB (md : Region.Mode) (ops : Array Oper) : Nat → Nat → Nat → Bool
  | 0, _, _ => false
  | f + 1, m, i => match ops[m]? with | some o => o.after.any fun e => Region.binds md e && (e.on == i || waitsB md ops f e.on i) | none => false
def Closed (md : Region.Mode) (ops : Array Oper) (listed : Array Bool) : Prop := ∀ k o, ops[k]? = some o → listed.getD k false = true → ∀ e ∈ o.after, Region.binds md e = true → listed.getD e.on false = true
theorem closed_of {listed : Array Bool} (h : closedB md ops listed = true) : Closed md ops listed := by
  intro k o ho hl e he hb
  have hk : k < ops.size := (Array.getElem?_eq_some_iff.1 ho).1
  have := List.all_eq_true.1 h k (List.mem_range.2 hk)
  rw [ho, hl] at this
  simp only [Bool.not_true, Bool.false_or] at this
  have := Array.all_eq_true'.1 this e he
  simpa [hb] using this
theorem getD_set_true {listed : Array Bool} {j k : Nat} (h : listed.getD k false = true) : (listed.setIfInBounds j true).getD k false = true := by
  by_cases e : j = k
  · subst e
    rcases Nat.lt_or_ge j listed.size with h' | h'
    · simp [h']
    · simp [Array.getElem?_eq_none h'] at h
  · simp [e] at h ⊢
    exact h
theorem Closed.set {listed : Array Bool} (h : Closed md ops listed) {j : Nat} (hj : j ∈ Region.ready md ops listed) : Closed md ops (listed.setIfInBounds j true) := by
  obtain ⟨hjun, oj, hoj, hall⟩ := mem_ready.1 hj
  intro k o ho hl e he hb
  by_cases hkj : j = k
  · subst hkj
    obtain rfl := Option.some.inj (hoj.symm.trans ho)
    exact getD_set_true (hall e he hb)
  · refine getD_set_true (h k o ho ?_ e he hb)
    simpa [hkj] using hl
theorem Closed.waits {listed : Array Bool} (h : Closed md ops listed) : ∀ {f k i : Nat}, listed.getD k false = true → waitsB md ops f k i = true → listed.getD i false = true
  | 0, _, _, _, hw => by simp [waitsB] at hw
  | f + 1, k, i, hl, hw => by
    rw [waitsB] at hw
    split at hw
    · rename_i o ho
      obtain ⟨e, he, hb⟩ := Array.any_eq_true'.1 hw
      simp only [Bool.and_eq_true, Bool.or_eq_true, beq_iff_eq] at hb
      have h1 := h k o ho hl e he hb.1
      rcases hb.2 with rfl | h2
      · exact h1
      · exact h.waits h1 h2
    · cases hw
theorem ready_waits {listed : Array Bool} (h : Closed md ops listed) {f m i : Nat} (hm : m ∈ Region.ready md ops listed) (hw : waitsB md ops f m i = true) (hi : i ∈ Region.ready md ops listed) : False := by
  obtain ⟨hmun, om, hom, hall⟩ := mem_ready.1 hm
  have hi0 := (mem_ready.1 hi).1
  have h1 : listed.getD i false = true := by
    cases f with
    | zero => simp [waitsB] at hw
    | succ f =>
      rw [waitsB, hom] at hw
      obtain ⟨e, he, hb⟩ := Array.any_eq_true'.1 hw
      simp only [Bool.and_eq_true, Bool.or_eq_true, beq_iff_eq] at hb
      have h2 := hall e he hb.1
      rcases hb.2 with rfl | h3
      · exact h2
      · exact h.waits h2 h3
  rcases Nat.lt_or_ge i listed.size with h' | h'
  · simp [h'] at hi0 h1
    rw [hi0] at h1
    cases h1
  · simp [Array.getElem?_eq_none h'] at hi0
/-- As wpAnyT_first, where m waits for i by whatever way. -/
theorem wpAnyT_first2 {m i f : Nat} {oi : Oper} {v : Value} (hi : ops[i]? = some oi) (hsel : ∀ (j : Nat) (o : Oper) cs b, ops[j]? = some o → o.op ≠ .select cs b)
    (hQ : ∀ c a w, Q (.panic c) (a.put oi.dst v) w → Q (.panic c) a w) (hm : waitsB md ops f m i = true) :
    ∀ (fuel : Nat) (listed : Array Bool) (a : Act) (w : World), Closed md ops listed →
      (∀ j oj, ops[j]? = some oj → j ≠ i → listed.getD j true = false → (∀ e ∈ oj.after, Region.binds md e = true → e.on ≠ i) → oi.apart ops oj = true) →
      i ∈ Region.ready md ops listed → YieldsIf P ops S oi v a → S w →
      wpAnyT P md ops Q S m fuel (listed.setIfInBounds i true) (a.put oi.dst v) w → wpAnyT P md ops Q S m (fuel + 1) listed a w := by
  intro fuel
  induction fuel with
  | zero =>
    intro listed a w hc _ hr hy hS H
    refine ⟨fun h => (by rw [h] at hr; cases hr), fun j hj => ?_⟩
    by_cases hji : j = i
    · subst hji; exact hy.wpOp hi hS ⟨.inr hS, H⟩
    · have := ready_mono hj hji
      rw [H.1] at this
      cases this
  | succ fuel ih =>
    intro listed a w hc hfree hr hy hS H
    refine ⟨fun h => (by rw [h] at hr; cases hr), fun j hj => ?_⟩
    by_cases hji : j = i
    · subst hji; exact hy.wpOp hi hS ⟨.inr hS, H⟩
    · have h1 := H.2 j (ready_mono hj hji)
      obtain ⟨hjun, oj, hoj, hall⟩ := mem_ready.1 hj
      have hnot : ∀ e ∈ oj.after, Region.binds md e = true → e.on ≠ i := fun e he hb heq => by
        have h1 := hall e he hb
        have h0 := (mem_ready.1 hr).1
        rw [heq] at h1
        rcases Nat.lt_or_ge i listed.size with h' | h'
        · simp [h'] at h0 h1; rw [h0] at h1; cases h1
        · simp [Array.getElem?_eq_none h'] at h1
      have hjm : j ≠ m := by
        rintro rfl
        exact ready_waits hc hj hm hr
      have h2 := wpOp_putIf hoj (hfree j oj hoj hji hjun hnot) (fun cs b => hsel i oi cs b hi) (fun cs b => hsel j oj cs b hoj) hQ hy h1
      have hfree' : ∀ k ok, ops[k]? = some ok → k ≠ i → (listed.setIfInBounds j true).getD k true = false →
          (∀ e ∈ ok.after, Region.binds md e = true → e.on ≠ i) → oi.apart ops ok = true := fun k ok hk hki hun hno => by
        refine hfree k ok hk hki ?_ hno
        by_cases hjk : j = k
        · subst hjk; exact hjun
        · rw [getD_set_ne true hjk] at hun; exact hun
      refine wpOp_mono (fun a' w' h3 => ?_) h2
      have hs : S w' := h3.2.1.resolve_left hjm
      refine ⟨.inr hs, ih (listed.setIfInBounds j true) a' w' (hc.set hj) hfree' (ready_mono hr (Ne.symm hji)) h3.1 hs ?_⟩
      rw [Array.setIfInBounds_comm _ _ hji]
      exact h3.2.2
theorem wpAnyT_take2 {m i : Nat} {oi : Oper} {v : Value} {fuel : Nat} {listed : Array Bool} {a : Act} {w : World} (hi : ops[i]? = some oi)
    (hs : Region.noSelect ops = true) (hf : Region.free md ops listed i = true) (hr : (Region.ready md ops listed).contains i = true)
    (hm : (waitsB md ops ops.size m i && closedB md ops listed) = true)
    (hQ : ∀ c a w, Q (.panic c) (a.put oi.dst v) w → Q (.panic c) a w) (hy : YieldsIf P ops S oi v a) (hS : S w)
    (h : wpAnyT P md ops Q S m fuel (listed.setIfInBounds i true) (a.put oi.dst v) w) : wpAnyT P md ops Q S m (fuel + 1) listed a w := by
  rw [Bool.and_eq_true] at hm
  exact wpAnyT_first2 hi (Region.noSelect_spec hs) hQ hm.1 fuel listed a w (closed_of hm.2) (Region.free_spec hi hf) (by simpa using hr) hy hS h
theorem wpAnyT_all {m : Nat} {rs : List Nat} {fuel : Nat} {listed : Array Bool} {a : Act} {w : World} (hr : Region.ready md ops listed = rs) (hne : rs ≠ [])
    (h : ∀ i ∈ rs, wpOp P ops Q i (fun a' w' => (i = m ∨ S w') ∧ wpAnyT P md ops Q S m fuel (listed.setIfInBounds i true) a' w') a w) : wpAnyT P md ops Q S m (fuel + 1) listed a w :=
  ⟨fun h0 => absurd (hr ▸ h0) hne, hr ▸ h⟩
/-- The one operation that is ready. -/
theorem wpAnyT_one {m i : Nat} {oi : Oper} {fuel : Nat} {listed : Array Bool} {a : Act} {w : World} (hi : ops[i]? = some oi) (hg : oi.guard = none) (hr : Region.ready md ops listed = [i])
    (h : Oper.wp P oi a w (fun a' w' => (i = m ∨ S w') ∧ wpAnyT P md ops Q S m fuel (listed.setIfInBounds i true) a' w') Q) : wpAnyT P md ops Q S m (fuel + 1) listed a w := by
  refine wpAnyT_all hr (by simp) (fun j hj => ?_)
  obtain rfl : j = i := by simpa using hj
  unfold wpOp
  have hw : Region.wanted oi (yielded ops a.tmps) = true := by simp [Region.wanted, hg]
  simp only [hi, hw, if_true]
  exact .inl h
theorem wpAnyT_done {m : Nat} {listed : Array Bool} {a : Act} {w : World} (hr : Region.ready md ops listed = []) (h : Q .normal a w) : ∀ fuel, wpAnyT P md ops Q S m fuel listed a w
  | 0 => ⟨hr, h⟩
  | _ + 1 => ⟨fun _ => h, by rw [hr]; simp⟩
theorem wp_region_T {id m : Nat} {a : Act} {w : World} (hm : P.follows .mixedOrders = true)
    (h : wpAnyT P .any ops Q S m ops.size (Array.replicate ops.size false) a w.drew) : (Code.region id ops true).wp P Q a w :=
  wp_region_any hm (wpAny_of_T _ _ _ _ h)
end
end Go.Proofs.YtfihfjbakfadkaaGreatDoor
namespace Go.Proofs.YtfihfjbakfadkaaGreatDoor
open Go.RowKit Go.BigFrame
set_option maxRecDepth 100000
set_option linter.unusedVariables false

theorem box9 {w1 : World} {b : Nat} {t : TypeId} {c0 c1 c2 c3 c4 c5 c6 c7 c8 : Value} (h : Blk w1 b t #[c0, c1, c2, c3, c4, c5, c6, c7, c8]) (x0 x1 x2 x3 x4 x5 x6 x7 x8 : Value) :
    Blk (((((((((w1.setCell ⟨b, 0, none⟩ x0).setCell ⟨b, 1, none⟩ x1).setCell ⟨b, 2, none⟩ x2).setCell ⟨b, 3, none⟩ x3).setCell ⟨b, 4, none⟩ x4).setCell ⟨b, 5, none⟩ x5).setCell ⟨b, 6, none⟩ x6).setCell ⟨b, 7, none⟩ x7).setCell ⟨b, 8, none⟩ x8) b t #[x0, x1, x2, x3, x4, x5, x6, x7, x8] ∧ Fr (only b) w1 (((((((((w1.setCell ⟨b, 0, none⟩ x0).setCell ⟨b, 1, none⟩ x1).setCell ⟨b, 2, none⟩ x2).setCell ⟨b, 3, none⟩ x3).setCell ⟨b, 4, none⟩ x4).setCell ⟨b, 5, none⟩ x5).setCell ⟨b, 6, none⟩ x6).setCell ⟨b, 7, none⟩ x7).setCell ⟨b, 8, none⟩ x8) := by
  refine ⟨?_, (((((((((Fr.refl (only b) w1).setCell (p := ⟨b, 0, none⟩) (.inl (Eq.refl _)) x0).setCell (p := ⟨b, 1, none⟩) (.inl (Eq.refl _)) x1).setCell (p := ⟨b, 2, none⟩) (.inl (Eq.refl _)) x2).setCell (p := ⟨b, 3, none⟩) (.inl (Eq.refl _)) x3).setCell (p := ⟨b, 4, none⟩) (.inl (Eq.refl _)) x4).setCell (p := ⟨b, 5, none⟩) (.inl (Eq.refl _)) x5).setCell (p := ⟨b, 6, none⟩) (.inl (Eq.refl _)) x6).setCell (p := ⟨b, 7, none⟩) (.inl (Eq.refl _)) x7).setCell (p := ⟨b, 8, none⟩) (.inl (Eq.refl _)) x8⟩
  have e := (((((((((h.set_ 0 x0).set_ 1 x1).set_ 2 x2).set_ 3 x3).set_ 4 x4).set_ 5 x5).set_ 6 x6).set_ 7 x7).set_ 8 x8)
  simp only [List.setIfInBounds_toArray, List.set_cons_zero, List.set_cons_succ] at e
  exact e

abbrev Pt := Option Addr × Nat × List Et
abbrev ptV (x : Pt) : Value := .slice x.1 x.2.2.length x.2.1
def ptL (ps : List Pt) : List Et := (ps.map (·.2.2)).flatten
theorem etFlat_app (L M : List Et) : etFlat (L ++ M) = etFlat L ++ etFlat M := by simp [etFlat]
theorem etFlat_take : ∀ (L : List Et) (n : Nat), etFlat (L.take n) = (etFlat L).take (n * 2)
  | [], n => by simp [etFlat]
  | p :: t, 0 => by simp [etFlat]
  | p :: t, n + 1 => by
    have := etFlat_take t n
    rw [show (n + 1) * 2 = n * 2 + 1 + 1 by omega]
    show etCells p ++ etFlat (t.take n) = (etCells p ++ etFlat t).take (n * 2 + 1 + 1)
    rw [this]
    rfl
theorem etFlat_drop (L : List Et) (n : Nat) : etFlat (L.drop n) = (etFlat L).drop (n * 2) := by
  have h : etFlat L = etFlat (L.take n) ++ etFlat (L.drop n) := by rw [← etFlat_app, List.take_append_drop]
  rcases Nat.lt_or_ge L.length n with hl | hl
  · rw [List.drop_eq_nil_of_le (by omega), List.drop_eq_nil_of_le (by rw [etFlat_len]; omega)]
    rfl
  · rw [h, List.drop_left' (by rw [etFlat_len]; simp; omega)]
theorem ptL_take {ps : List Pt} {k : Nat} {x : Pt} (h : ps[k]? = some x) : ptL (ps.take (k + 1)) = ptL (ps.take k) ++ x.2.2 := by
  simp [ptL, List.take_add_one, h]
theorem ptL_le (ps : List Pt) : ∀ k, (ptL (ps.take k)).length ≤ (ptL ps).length := fun k => by
  have : ptL ps = ptL (ps.take k) ++ ptL (ps.drop k) := by
    unfold ptL
    rw [← List.flatten_append, ← List.map_append, List.take_append_drop]
  rw [this, List.length_append]
  omega
def JoinPost (w : World) (L : List Et) (e : Ending) (w' : World) : Prop :=
  ∃ A c, e = .returned (.slice A L.length c) ∧ w'.ownsRow w.heap.size 59 2 (.slice A L.length c) L.length (etFlat L) ∧ Fr none_ w w'
set_option maxHeartbeats 2000000 in
theorem joined_ok (b : Nat) (ps : List Pt) (w : World) (hb : ∀ (i : Nat) x, ps[i]? = some x → w.cell? ⟨b, i, none⟩ = some (ptV x)) (hr : ∀ x ∈ ps, Reads w 2 x.1 x.2.2.length (etFlat x.2.2)) (hl : (ptL ps).length ≤ 2000) (hn : ps.length ≤ 10) :
    Calls Tryz.prog 68 #[.slice (some ⟨b, 0, none⟩) ps.length ps.length] w (JoinPost w (ptL ps)) := by
  obtain ⟨i0, hi0, hz0, hs0, hb0⟩ := info_parts entry_info
  have Hi := hid_ (And.intro hi0 (And.intro hz0 (And.intro hs0 hb0)))
  have HB := hid_ hb
  have HR := hid_ hr
  clear hi0 hz0 hs0 hb0 hb hr
  go_enter Tryz.func68, Tryz.ntmps68
  go_wp2_with fail
  go_loopw [3, 8] (fun v i wr => ∃ k : Nat, k ≤ ps.length ∧ i = .int .i64 k ∧ wr.ownsRow w.heap.size 59 2 v (ptL (ps.take k)).length (etFlat (ptL (ps.take k))) ∧ Fr none_ w wr) (fun _ i _ => ps.length - (intOf i).toNat)
  case atStart => exact ⟨0, Nat.zero_le _, rfl, World.ownsRow_nil _ _ _ _, Fr.refl _ _⟩
  case round =>
    obtain ⟨k, hk, rfl, hown, hF⟩ := hrel
    obtain ⟨A, c, rfl⟩ := hown.shape
    have O := hid_ hown
    have F := hid_ hF
    clear hown hF
    have hi0 : (0 : Int) ≤ (k : Int) := Int.natCast_nonneg _
    by_cases hlt : k < ps.length
    · have hi1 : (k : Int) < (ps.length : Int) := by omega
      obtain ⟨x, hx⟩ : ∃ x, ps[k]? = some x := ⟨_, List.getElem?_eq_getElem hlt⟩
      obtain ⟨A2, c2, L2⟩ := x
      have hc : wr.cell? ⟨b, k, none⟩ = some (.slice A2 L2.length c2) := cellFr (HB.out k _ hx) F.out
      have R := hid_ ((HR.out _ (List.mem_of_getElem? hx)).none_fr F.out)
      have HT := hid_ (ptL_take hx)
      have hle : (ptL (ps.take k)).length + L2.length ≤ (ptL ps).length := by
        have := ptL_le ps (k + 1)
        rw [HT.out, List.length_append] at this
        exact this
      have hfs := F.out.size
      clear hx
      go_wp2_with (at_builtin; refine wpList_append_any _ rfl (.tmp 12) (.tmp 13) 29 rfl w.heap.size 59 i0 _ 2 24 Tryz.underlying29 Hi.out.1 Hi.out.2.1 Hi.out.2.2.1 Hi.out.2.2.2 rfl (by omega) (.slice A (ptL (ps.take k)).length c) (ptL (ps.take k)).length (etFlat (ptL (ps.take k))) rfl O.out A2 L2.length c2 (etFlat L2) rfl R.out (etFlat_one _) (by simp only [maxLen]; omega) (by omega) hfs ?_; intro A3 c3 w3 hown3 hgr3)
      have R3 : w3.ownsRow w.heap.size 59 2 (.slice A3 ((ptL (ps.take k)).length + L2.length) c3) (ptL (ps.take (k + 1))).length (etFlat (ptL (ps.take (k + 1)))) ∧ Fr none_ w w3 := by
        refine ⟨?_, F.out.grown hgr3 (fun b hb => .inr (O.out.lt b hb).1)⟩
        rw [HT.out, List.length_append, etFlat_app]
        exact hown3
      have HR3 := hid_ R3
      clear R3 hown3 hgr3
      go_wp2
      go_roundw
      case rel => exact ⟨k + 1, by omega, by go_num, HR3.out.1, HR3.out.2⟩
      case measure => simp [intOf]; omega
    · obtain rfl : k = ps.length := by omega
      have o := O.out
      have f := F.out
      rw [List.take_length] at o
      go_wp2
      go_ret
      rw [List.take_length]
      exact ⟨A, c, rfl, o, f⟩
end Go.Proofs.YtfihfjbakfadkaaGreatDoor

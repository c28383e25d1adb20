/- Texts of one proof, merged: Base, Err, Cmp, Reads, More, Open, TypesR, Rec, Clone, RdAt, Qx, Vw, HeldT, Join, Rw7, HeldU, Mid, U7, Rs7, Tk7. -/
import Derived.WalkKit
import Derived.Carry
import Derived.ProofKit
import Derived.SizedLaws
import Derived.LaidLaws
import Derived.LaidHandle
import Derived.Stop.Joined
import Derived.Deep.QuietTactic
import Derived.Deep.Slices
import Derived.Test.YtpjbncbmdfmlpaaProg
import Derived.WalkLawsBesides
import Derived.WalkSpells
import Derived.BigQuiet
import Derived.IntWalk
import Derived.Laws.OwnMore
import Derived.Deep.AppendLies
import Derived.Maps.AppendAt
import Derived.RegionTactic
import Derived.OwnWalk
import Derived.ChangeArms
import Derived.Deep.DeepCutAuto
import Derived.Deep.RegionHeld3
import Derived.OrdersHeld
import Derived.Deep.MidRow
namespace Go.Proofs.Ytpjbncbmdfmlpaa
open Go.ChangeShapes Go.WideShapes Go.RowKit

/-- w' is w with new blocks; of the old blocks only those in S may have turned. -/
structure Fr (S : Nat → Prop) (w w' : World) : Prop where
  os : w'.os = w.os
  tape : w'.tape = w.tape
  output : w'.output = w.output
  size : w.heap.size ≤ w'.heap.size
  block : ∀ k, k < w.heap.size → ¬ S k → w'.heap[k]? = w.heap[k]?

theorem hid_ {p : Prop} (h : p) : Hid p := h

def none_ : Nat → Prop := fun _ => False

def only (g : Nat) : Nat → Prop := fun k => k = g
theorem only_ne {g k : Nat} (h : k ≠ g) : ¬ only g k := h

theorem Fr.refl (S : Nat → Prop) (w : World) : Fr S w w := ⟨rfl, rfl, rfl, Nat.le_refl _, fun _ _ _ => rfl⟩
theorem Fr.mono {S S' : Nat → Prop} {w w' : World} (h : Fr S w w') (hs : ∀ k, k < w.heap.size → S k → S' k) : Fr S' w w' :=
  ⟨h.os, h.tape, h.output, h.size, fun k hk hn => h.block k hk (fun e => hn (hs k hk e))⟩
theorem Fr.trans {S S' S'' : Nat → Prop} {a b c : World} (h : Fr S a b) (k : Fr S' b c) (h1 : ∀ i, i < a.heap.size → S i → S'' i) (h2 : ∀ i, i < a.heap.size → S' i → S'' i) : Fr S'' a c :=
  ⟨k.os.trans h.os, k.tape.trans h.tape, k.output.trans h.output, Nat.le_trans h.size k.size, fun i hi hn =>
    (k.block i (Nat.lt_of_lt_of_le hi h.size) (fun e => hn (h2 i hi e))).trans (h.block i hi (fun e => hn (h1 i hi e)))⟩
/-- A step that turned block g alone, which is new against the world behind h. -/
theorem Fr.then_only {S : Nat → Prop} {a b c : World} {g : Nat} (h : Fr S a b) (k : Fr (only g) b c) (hg : S g ∨ a.heap.size ≤ g) : Fr S a c :=
  h.trans k (fun _ _ => id) (fun i hi e => by
    obtain rfl : i = g := e
    rcases hg with hg | hg
    · exact hg
    · omega)
theorem Fr.then_none {S : Nat → Prop} {a b c : World} (h : Fr S a b) (k : Fr none_ b c) : Fr S a c := h.trans k (fun _ _ => id) (fun _ _ e => e.elim)
theorem Fr.drew {S : Nat → Prop} {a w : World} (h : Fr S a w) : Fr S a w.drew := ⟨h.os, h.tape, h.output, h.size, h.block⟩
theorem Fr.drewN {S : Nat → Prop} {a w : World} (h : Fr S a w) (n : Nat) : Fr S a (w.drewN n) := ⟨h.os, h.tape, h.output, h.size, h.block⟩
theorem Fr.alloc {S : Nat → Prop} {a w : World} (h : Fr S a w) (o : Obj) : Fr S a (w.alloc o) :=
  ⟨h.os, h.tape, h.output, Nat.le_trans h.size (by simp), fun k hk hn => (Below.heap_alloc w o k (Nat.lt_of_lt_of_le hk h.size)).trans (h.block k hk hn)⟩
theorem Fr.setCell {S : Nat → Prop} {a w : World} (h : Fr S a w) {p : Addr} (hp : S p.block ∨ a.heap.size ≤ p.block) (u : Value) : Fr S a (w.setCell p u) :=
  ⟨h.os, h.tape, h.output, by simpa [World.setCell] using h.size, fun k hk hn => (Below.heap_setCell w p u k (by
    rintro rfl
    rcases hp with hp | hp
    · exact hn hp
    · omega)).trans (h.block k hk hn)⟩
theorem Fr.grown {S : Nat → Prop} {a w w' : World} {row : Option Nat} (h : Fr S a w) (hg : w.grownBy w' row) (hr : ∀ k, row = some k → S k ∨ a.heap.size ≤ k) : Fr S a w' :=
  ⟨hg.os.trans h.os, hg.tape.trans h.tape, hg.output.trans h.output, Nat.le_trans h.size hg.size, fun k hk hn =>
    (hg.block k (Nat.lt_of_lt_of_le hk h.size) (fun e => by
      rcases hr k e.symm with h' | h'
      · exact hn h'
      · omega)).trans (h.block k hk hn)⟩
theorem Fr.below {S : Nat → Prop} {w w' : World} (h : Fr S w w') {B : Nat} (hB : B ≤ w.heap.size) (hs : ∀ k, S k → B ≤ k) : Below B w w' :=
  ⟨h.os, h.tape, h.output, h.size, fun k hk => h.block k (by omega) (fun e => by have := hs k e; omega)⟩
theorem Fr.below0 {w w' : World} (h : Fr none_ w w') : Below w.heap.size w w' := h.below (Nat.le_refl _) (fun _ e => e.elim)

/-- Block g holds just the cells cs, of element type t; none is frozen. -/
def Blk (w : World) (g : Nat) (t : TypeId) (cs : Array Value) : Prop := w.heap[g]? = some (.cells cs t (0, 0))

section
variable {w w' : World} {g : Nat} {t : TypeId} {cs : Array Value} {S : Nat → Prop}
theorem Blk.lt (h : Blk w g t cs) : g < w.heap.size := by
  rcases Nat.lt_or_ge g w.heap.size with hlt | hge
  · exact hlt
  · unfold Blk at h; rw [Array.getElem?_eq_none hge] at h; cases h
theorem Blk.cell (h : Blk w g t cs) (i : Nat) : w.cell? ⟨g, i, none⟩ = cs[i]? := cell_of_row w g i cs t (0, 0) h
theorem Blk.cell' (h : Blk w g t cs) {i : Nat} {v : Value} (hv : cs[i]? = some v) : w.cell? ⟨g, i, none⟩ = some v := (h.cell i).trans hv
theorem Blk.frozen (h : Blk w g t cs) (i : Nat) : w.frozen? ⟨g, i, none⟩ = false := by
  unfold Blk at h
  simp [World.frozen?, h]
theorem Blk.new (w : World) (t : TypeId) (cs : Array Value) : Blk (w.alloc (.cells cs t)) w.heap.size t cs := heap_alloc_new w _
theorem Blk.drew (h : Blk w g t cs) : Blk w.drew g t cs := h
theorem Blk.drewN (h : Blk w g t cs) (n : Nat) : Blk (w.drewN n) g t cs := h
theorem Blk.alloc (h : Blk w g t cs) (o : Obj) : Blk (w.alloc o) g t cs := (Below.heap_alloc w o g h.lt).trans h
theorem Blk.set_ (h : Blk w g t cs) (i : Nat) (u : Value) : Blk (w.setCell ⟨g, i, none⟩ u) g t (cs.setIfInBounds i u) := by
  unfold Blk at h ⊢
  simp [World.setCell, Array.getElem?_modify, h]
theorem Blk.far (h : Blk w g t cs) {p : Addr} (hp : g ≠ p.block) (u : Value) : Blk (w.setCell p u) g t cs := (Below.heap_setCell w p u g hp).trans h
theorem Blk.fr (h : Blk w g t cs) (hf : Fr S w w') (hg : ¬ S g) : Blk w' g t cs := (hf.block g h.lt hg).trans h
theorem Blk.below {B : Nat} (h : Blk w g t cs) (hb : Below B w w') (hg : g < B) : Blk w' g t cs := (hb.block g hg).trans h
theorem Blk.grown {row : Option Nat} (h : Blk w g t cs) (hb : w.grownBy w' row) (hg : some g ≠ row) : Blk w' g t cs := (hb.block g h.lt hg).trans h
theorem Blk.ne_ {g' : Nat} {t' : TypeId} {cs' : Array Value} (h : Blk w g t cs) (h' : Blk w g' t' cs') (hne : t ≠ t') : g ≠ g' := by
  rintro rfl
  unfold Blk at h h'
  rw [h] at h'
  injection h' with h'
  injection h' with _ ht
  exact hne ht
end

theorem _root_.Go.World.ownsRow.shape {w : World} {base : Nat} {e : TypeId} {size : Nat} {v : Value} {n : Nat} {xs : List Value} (h : w.ownsRow base e size v n xs) : ∃ A c, v = .slice A n c := by
  rcases h.2 with ⟨rfl, rfl⟩ | ⟨g, cap, cur, rfl, _⟩
  · exact ⟨_, _, rfl⟩
  · exact ⟨_, _, rfl⟩

section
variable {H : Type} {enc : TypeId × Value → H}

/-- All arguments read as they did. -/
theorem args_kept {P : Program} (hl : laidOutB P = true) {W W' : World} (hb : Below W.heap.size W W') : ∀ {ts : List TypeId} {vs : List Value} {ds : List (DataW H)} {ps : List MemPlace},
    (∀ t ∈ ts, P.readableRec t = true ∧ t < P.types.size) → DataW.TrodAll enc P W 0 (fun _ => true) true ts vs ds ps → (∀ x ∈ ps, x.block < W.heap.size) →
    DataW.TrodAll enc P W' 0 (fun b => decide (b < W.heap.size)) true ts vs ds ps
  | [], vs, ds, ps, _, h, _ => by
    obtain ⟨rfl, rfl, rfl⟩ := trodAll_nil h
    rfl
  | t :: ts, vs, ds, ps, hr, h, hlt => by
    obtain ⟨v, vs', d, ds', p, q, rfl, rfl, rfl, h1, h2⟩ := trodAll_cons h
    exact ⟨p, q, Below.trod hl (hr t (by simp)).1 (hr t (by simp)).2 h1 hb (fun x hx => hlt x (by simp [hx])), args_kept hl hb (fun t' ht' => hr t' (by simp [ht'])) h2 (fun x hx => hlt x (by simp [hx])), rfl⟩

/-- What a law's walk has to show: from any arguments that read as data, the call returns true and nothing of what was there turns. -/
def LawWalk (enc : TypeId × Value → H) (P : Program) (f : FuncId) (ts : List TypeId) (X : World → Prop) : Prop :=
  ∀ (W : World) (args : Array Value) (ds : List (DataW H)) (ps : List MemPlace) (base : Nat), DataW.TrodAll enc P W 0 (fun _ => true) true ts args.toList ds ps →
    (∀ (j : Nat) t v, ts[j]? = some t → args.toList[j]? = some v → Value.okWide P W .any base t v) → (∀ x ∈ ps, x.block < W.heap.size) →
    (DataW.weightsEach P ts ds).all (· ≤ reachBytes) = true → X W →
    Calls P f args W fun e W' => e = .returned (.bool true) ∧ Below W.heap.size W W'

theorem post_of_walk {P : Program} {fn : Func} {s : ChangeSpec} {apart handsOn : Bool} {tb : TypeId} (hl : laidOutB P = true) (hpar : (fn.params.toList.all fun t => P.readableRec t && decide (t < P.types.size)) = true)
    (hres : fn.resultTypes = #[tb]) (htb : P.underlying tb = some .bool) (hvars : s.vars = []) (hspec : ∀ ds : List (DataW H), ds.length = fn.params.toList.length → s.fn H (ds ++ []) = { results := [.lit (.bool true)], args := ds })
    {W W' : World} {args : Array Value} {ds gs : List (DataW H)} {before : List MemPlace} (hW : DataW.Whole enc P fn.params.toList s.vars apart W args.toList ds gs before) (hb : Below W.heap.size W W') :
    s.post enc P fn apart true handsOn false W args (.bool true) W' := by
  have hW' := hW
  obtain ⟨p, q, hA, hV, rfl, hfz, hnd⟩ := hW
  rw [hvars] at hV
  obtain ⟨rfl, rfl⟩ : gs = [] ∧ q = [] := by
    cases gs with
    | nil => exact ⟨rfl, hV⟩
    | cons g r => exact absurd hV (by intro h; cases h)
  have hlen : ds.length = fn.params.toList.length := by
    clear hpar hspec hfz hnd hW' hres hb
    generalize fn.params.toList = ts at hA
    generalize args.toList = vs at hA
    induction ts generalizing vs ds p with
    | nil => obtain ⟨rfl, rfl, rfl⟩ := trodAll_nil hA; rfl
    | cons t ts ih =>
      obtain ⟨v, vs', d, ds', p', q', rfl, rfl, rfl, h1, h2⟩ := trodAll_cons hA
      simp [ih _ _ h2]
  have hr : ∀ t ∈ fn.params.toList, P.readableRec t = true ∧ t < P.types.size := fun t ht => by
    have := List.all_eq_true.1 hpar t ht
    simpa using this
  have hlt : ∀ x ∈ p, x.block < W.heap.size := fun x hx => hW'.lt x (by simp [hx])
  have e := hspec ds hlen
  refine ⟨ds, [], _, [], p, [], hW', ?_, ?_, ?_, hb.frame _, fun h => by cases h⟩
  · rw [e, hres]
    exact trodAll_mk1 (shut_bool htb true)
  · rw [e]
    exact args_kept hl hb hr hA hlt
  · rw [e, hvars]
    rfl

theorem lift_plain {C : Checked} {os : Os} {f : FuncId} {fn : Func} {s : ChangeSpec} {apart handsOn : Bool} {tb : TypeId}
    (own : ownKnob C.prog.godebug = none) (started : os.Started) (noInit : C.prog.inits.idxOf? f = none) (hfn : C.prog.funcs[f]? = some fn)
    (hl : laidOutB C.prog = true) (hpar : (fn.params.toList.all fun t => C.prog.readableRec t && decide (t < C.prog.types.size)) = true)
    (hres : fn.resultTypes = #[tb]) (htb : C.prog.underlying tb = some .bool) (hvars : s.vars = []) (hspec : ∀ ds : List (DataW H), ds.length = fn.params.toList.length → s.fn H (ds ++ []) = { results := [.lit (.bool true)], args := ds })
    (witness : ∃ (w : World) (tape : Tape) (i : Input), w.os = os ∧ (w.forCall tape i).Shaped C.prog ∧ i.vars = [] ∧ Input.okWide C.prog (w.forCall tape i) .any w.heap.size f i ∧
      s.pre6 enc C.prog fn [] apart (w.forCall tape i).memory i.args ∧ ({} : Assume).holds C.prog (lone (Frame.enter C.prog f i.args .normal) [] (w.forCall tape i)))
    (walk : LawWalk enc C.prog f fn.params.toList (fun _ => True)) :
    ReturnsInHanded {} C os f .any (s.pre6 enc C.prog fn [] apart) (s.post enc C.prog fn apart true handsOn false) := by
  refine returnsInHanded_of_change_sized own started noInit hfn witness ?_
  intro W base args ds gs before hval hW _ hsz _
  have hW' := hW
  obtain ⟨p, q, hA, hV, rfl, hfz, hnd⟩ := hW
  rw [hvars] at hV
  obtain ⟨rfl, rfl⟩ : gs = [] ∧ q = [] := by
    cases gs with
    | nil => exact ⟨rfl, hV⟩
    | cons g r => exact absurd hV (by intro h; cases h)
  have hvt : s.plain.varTypes C.prog = [] := by simp [DataSpec.varTypes, ChangeSpec.plain, hvars]
  rw [hvt] at hsz
  simp only [List.append_nil] at hsz
  refine (walk W args ds p base hA (fun j t v ht hv => hval j t v (by simpa using ht) (by simpa using hv)) (fun x hx => hW'.lt x (by simp [hx])) hsz trivial).mono fun e W' ⟨he, hb⟩ => ?_
  exact ⟨_, he, post_of_walk hl hpar hres htb hvars hspec hW' hb⟩

end
end Go.Proofs.Ytpjbncbmdfmlpaa
namespace Go.Proofs.Ytpjbncbmdfmlpaa
open Go.RowKit

abbrev errV (k : Int) : Value := .iface 51 (.int .i64 k)
end Go.Proofs.Ytpjbncbmdfmlpaa
namespace Go.Proofs.Ytpjbncbmdfmlpaa
open Go.RowKit
set_option maxRecDepth 100000
set_option linter.unusedVariables false

/-- Is one list of bytes ahead of another one? -/
def ltL : List UInt8 → List UInt8 → Bool
  | [], [] => false
  | [], _ :: _ => true
  | _ :: _, [] => false
  | a :: x, b :: y => decide (a.toNat < b.toNat) || (decide (a.toNat = b.toNat) && ltL x y)
theorem u8_eq {a b : UInt8} (h : a.toNat = b.toNat) : a = b := UInt8.toNat_inj.1 h
theorem ltL_cons {a b : UInt8} {x y : List UInt8} : ltL (a :: x) (b :: y) = true ↔ a.toNat < b.toNat ∨ a.toNat = b.toNat ∧ ltL x y = true := by
  simp [ltL]
theorem ltL_irrefl : ∀ x : List UInt8, ltL x x = false
  | [] => rfl
  | a :: x => by simp [ltL, ltL_irrefl x]
theorem ltL_trans : ∀ {x y z : List UInt8}, ltL x y = true → ltL y z = true → ltL x z = true
  | [], [], _, h, _ => by simp [ltL] at h
  | [], _ :: _, [], _, h => by simp [ltL] at h
  | [], _ :: _, _ :: _, _, _ => rfl
  | _ :: _, [], _, h, _ => by simp [ltL] at h
  | _ :: _, _ :: _, [], _, h => by simp [ltL] at h
  | a :: x, b :: y, c :: z, h, k => by
    rw [ltL_cons] at h k ⊢
    rcases h with h | ⟨h, h'⟩ <;> rcases k with k | ⟨k, k'⟩
    · left; omega
    · left; omega
    · left; omega
    · right; exact ⟨by omega, ltL_trans h' k'⟩
theorem ltL_total : ∀ (x y : List UInt8), ltL x y = true ∨ x = y ∨ ltL y x = true
  | [], [] => .inr (.inl rfl)
  | [], _ :: _ => .inl rfl
  | _ :: _, [] => .inr (.inr rfl)
  | a :: x, b :: y => by
    rw [ltL_cons, ltL_cons]
    rcases Nat.lt_trichotomy a.toNat b.toNat with h | h | h
    · exact .inl (.inl h)
    · rcases ltL_total x y with k | rfl | k
      · exact .inl (.inr ⟨h, k⟩)
      · exact .inr (.inl (by rw [u8_eq h]))
      · exact .inr (.inr (.inr ⟨h.symm, k⟩))
    · exact .inr (.inr (.inl h))
/-- How many bytes two lists begin with alike. -/
def cpL : List UInt8 → List UInt8 → Nat
  | a :: x, b :: y => if a = b then cpL x y + 1 else 0
  | _, _ => 0
theorem cpL_le : ∀ (x y : List UInt8), cpL x y ≤ x.length ∧ cpL x y ≤ y.length
  | [], _ => ⟨Nat.le_refl _, Nat.zero_le _⟩
  | _ :: _, [] => ⟨Nat.zero_le _, Nat.le_refl _⟩
  | a :: x, b :: y => by
    have := cpL_le x y
    rw [cpL]
    split <;> simp <;> omega
theorem cpL_in : ∀ {x y : List UInt8} {i : Nat}, i < cpL x y → x[i]? = y[i]?
  | [], _, i, h => by simp [cpL] at h
  | _ :: _, [], i, h => by simp [cpL] at h
  | a :: x, b :: y, i, h => by
    rw [cpL] at h
    split at h
    · rename_i e
      cases i with
      | zero => simp [e]
      | succ i => simpa using cpL_in (x := x) (y := y) (i := i) (by omega)
    · omega
theorem cpL_stop : ∀ {x y : List UInt8} {a b : UInt8}, x[cpL x y]? = some a → y[cpL x y]? = some b → a ≠ b
  | [], _, a, b, h, _ => by simp at h
  | _ :: _, [], a, b, _, h => by simp at h
  | c :: x, d :: y, a, b, h, k => by
    rw [cpL] at h k
    split at h
    · rename_i e
      rw [if_pos e] at k
      exact cpL_stop (x := x) (y := y) (by simpa using h) (by simpa using k)
    · rename_i e
      rw [if_neg e] at k
      have h1 : c = a := by simpa using h
      have h2 : d = b := by simpa using k
      rw [← h1, ← h2]; exact e
/-- A number that is as far as two lists are alike, and no farther, is that. -/
theorem cpL_is : ∀ {x y : List UInt8} {n : Nat}, (∀ i, i < n → x[i]? = y[i]?) → n ≤ x.length → n ≤ y.length → (n = x.length ∨ n = y.length ∨ ∃ a b, x[n]? = some a ∧ y[n]? = some b ∧ a ≠ b) → cpL x y = n
  | [], y, n, _, h1, _, _ => by
    obtain rfl : n = 0 := by simpa using h1
    simp [cpL]
  | _ :: _, [], n, _, _, h2, _ => by
    obtain rfl : n = 0 := by simpa using h2
    simp [cpL]
  | c :: x, d :: y, 0, _, _, _, h => by
    rcases h with h | h | ⟨a, b, h1, h2, h3⟩
    · simp at h
    · simp at h
    · have e1 : c = a := by simpa using h1
      have e2 : d = b := by simpa using h2
      rw [cpL, if_neg (by rw [e1, e2]; exact h3)]
  | c :: x, d :: y, n + 1, hi, h1, h2, h => by
    have e0 : c = d := by simpa using hi 0 (by omega)
    rw [cpL, if_pos e0]
    congr 1
    refine cpL_is (fun i hn => by simpa using hi (i + 1) (by omega)) (by simpa using h1) (by simpa using h2) ?_
    rcases h with h | h | ⟨a, b, h1, h2, h3⟩
    · exact .inl (by simpa using h)
    · exact .inr (.inl (by simpa using h))
    · exact .inr (.inr ⟨a, b, by simpa using h1, by simpa using h2, h3⟩)
theorem lt_of_end : ∀ {x y : List UInt8}, cpL x y = x.length → x.length < y.length → ltL x y = true
  | [], [], _, h => by simp at h
  | [], _ :: _, _, _ => rfl
  | _ :: _, [], _, h => by simp at h
  | a :: x, b :: y, h, hl => by
    rw [cpL] at h
    split at h
    · rename_i e
      rw [ltL_cons]
      right
      exact ⟨by rw [e], lt_of_end (by simpa using h) (by simpa using hl)⟩
    · simp at h
theorem cp_comm : ∀ x y : List UInt8, cpL x y = cpL y x
  | [], [] => rfl
  | [], _ :: _ => rfl
  | _ :: _, [] => rfl
  | a :: x, b :: y => by
    rw [cpL, cpL]
    by_cases h : a = b
    · rw [if_pos h, if_pos h.symm, cp_comm x y]
    · rw [if_neg h, if_neg (fun e => h e.symm)]
theorem lt_of_stop : ∀ {x y : List UInt8} {a b : UInt8}, x[cpL x y]? = some a → y[cpL x y]? = some b → a.toNat < b.toNat → ltL x y = true
  | [], _, a, b, h, _, _ => by simp at h
  | _ :: _, [], a, b, _, h, _ => by simp at h
  | c :: x, d :: y, a, b, h, k, l => by
    rw [ltL_cons]
    rw [cpL] at h k
    split at h
    · rename_i e
      rw [if_pos e] at k
      exact .inr ⟨by rw [e], lt_of_stop (by simpa using h) (by simpa using k) l⟩
    · rename_i e
      rw [if_neg e] at k
      have h1 : c = a := by simpa using h
      have h2 : d = b := by simpa using k
      rw [h1, h2]; exact .inl l
theorem eq_of_cp {x y : List UInt8} (h1 : cpL x y = x.length) (h2 : cpL x y = y.length) : x = y := by
  apply List.ext_getElem?
  intro i
  rcases Nat.lt_or_ge i (cpL x y) with h | h
  · exact cpL_in h
  · rw [List.getElem?_eq_none (by omega), List.getElem?_eq_none (by omega)]

def ltS (a b : ByteArray) : Bool := ltL a.data.toList b.data.toList
theorem ba_eq {a b : ByteArray} (h : a.data.toList = b.data.toList) : a = b := by
  cases a; cases b
  congr
  exact Array.toList_inj.1 h
theorem ltS_irrefl (a : ByteArray) : ltS a a = false := ltL_irrefl _
theorem ltS_trans {a b c : ByteArray} (h : ltS a b = true) (k : ltS b c = true) : ltS a c = true := ltL_trans h k
theorem ltS_total (a b : ByteArray) : ltS a b = true ∨ a = b ∨ ltS b a = true := by
  rcases ltL_total a.data.toList b.data.toList with h | h | h
  · exact .inl h
  · exact .inr (.inl (ba_eq h))
  · exact .inr (.inr h)
theorem ltS_asymm {a b : ByteArray} (h : ltS a b = true) : ltS b a = false := by
  cases h' : ltS b a with
  | false => rfl
  | true => have := ltS_trans h h'; rw [ltS_irrefl] at this; cases this
theorem ltS_ne {a b : ByteArray} (h : ltS a b = true) : a ≠ b := by rintro rfl; rw [ltS_irrefl] at h; cases h
theorem ba_toList (a : ByteArray) : a.toList = a.data.toList := ByteArray.toList_eq a
/-- Are two texts the same? As the walk spells it. -/
def sEq (a b : ByteArray) : Bool := a.toList == b.toList
theorem sEq_iff {a b : ByteArray} : sEq a b = true ↔ a = b := by
  unfold sEq
  rw [beq_iff_eq, ba_toList, ba_toList]
  exact ⟨ba_eq, fun h => by rw [h]⟩
theorem sEq_self (a : ByteArray) : sEq a a = true := sEq_iff.2 rfl
theorem sEq_ne {a b : ByteArray} (h : a ≠ b) : sEq a b = false := by
  cases e : sEq a b with
  | false => rfl
  | true => exact absurd (sEq_iff.1 e) h
def cmpI (a b : ByteArray) : Int := if ltS a b = true then -1 else if a = b then 0 else 1
theorem cmp_lt {a b : ByteArray} (h : ltS a b = true) : cmpI a b = -1 := if_pos h
theorem cmp_eq (a : ByteArray) : cmpI a a = 0 := by rw [cmpI, if_neg (by rw [ltS_irrefl]; decide), if_pos rfl]
theorem cmp_gt {a b : ByteArray} (h : ltS b a = true) : cmpI a b = 1 := by rw [cmpI, if_neg (by rw [ltS_asymm h]; decide), if_neg (fun e => ltS_ne h e.symm)]
theorem cmp_neg (a b : ByteArray) : decide (cmpI a b < 0) = ltS a b := by
  rcases ltS_total a b with h | rfl | h
  · rw [cmp_lt h, h]; rfl
  · rw [cmp_eq, ltS_irrefl]; rfl
  · rw [cmp_gt h, ltS_asymm h]; rfl
theorem cmp_le (a b : ByteArray) : decide (cmpI a b ≤ 0) = !ltS b a := by
  rcases ltS_total a b with h | rfl | h
  · rw [cmp_lt h, ltS_asymm h]; rfl
  · rw [cmp_eq, ltS_irrefl]; rfl
  · rw [cmp_gt h, h]; rfl
theorem cmp_ge (a b : ByteArray) : decide (0 ≤ cmpI a b) = !ltS a b := by
  rcases ltS_total a b with h | rfl | h
  · rw [cmp_lt h, h]; rfl
  · rw [cmp_eq, ltS_irrefl]; rfl
  · rw [cmp_gt h, ltS_asymm h]; rfl
def inS (low high : ByteArray) (unb : Bool) (key : ByteArray) : Bool := !ltS key low && (unb || ltS key high)

theorem ba_len (a : ByteArray) : a.data.toList.length = a.size := by simp
theorem ba_get {a : ByteArray} {i : Nat} (h : i < a.size) : a.data.toList[i]? = some a[i] := by
  rw [List.getElem?_eq_getElem (by rw [ba_len]; exact h)]
  rfl

theorem drewN_drewN (w : World) (a b : Nat) : (w.drewN a).drewN b = w.drewN (a + b) := by
  simp [World.drewN, Nat.add_assoc]
set_option maxHeartbeats 2000000 in
theorem common_ok (a b : ByteArray) (w : World) (ha : a.size ≤ 9000000000000000000) (hb : b.size ≤ 9000000000000000000) :
    Calls Try.prog 103 #[.string a, .string b] w fun e w' => e = .returned (.int .i64 (cpL a.data.toList b.data.toList : Nat)) ∧ ∃ n, w' = w.drewN n := by
  by_cases hmin : b.size < a.size
  · go_enter Try.func103, Try.ntmps103
    go_wp2
    go_loopw [5, 11] (fun n i wr => ∃ k : Nat, k ≤ b.size ∧ n = .int .i64 k ∧ i = .int .i64 k ∧ (∀ j, j < k → a.data.toList[j]? = b.data.toList[j]?) ∧ ∃ q, wr = w.drewN q) (fun _ i _ => b.size - (intOf i).toNat)
    case atStart => exact ⟨0, Nat.zero_le _, rfl, rfl, fun j hj => by omega, 0, rfl⟩
    case round =>
      obtain ⟨k, hk, rfl, rfl, hall, q, rfl⟩ := hrel
      have HA := hid_ hall
      clear hall
      by_cases hlt : k < b.size
      · have hka : k < a.size := by omega
        have hkb : k < b.size := by omega
        have hi0 : (0 : Int) ≤ (k : Int) := Int.natCast_nonneg _
        have hia : (k : Int) < (a.size : Int) := by omega
        have hib : (k : Int) < (b.size : Int) := by omega
        by_cases he : a[k] = b[k]
        · have hne : ((a[k].toNat : Int) != (b[k].toNat : Int)) = false := by rw [he]; simp
          have HS : Hid (∀ j, j < k + 1 → a.data.toList[j]? = b.data.toList[j]?) := hid_ (fun j hj => by
            rcases Nat.lt_succ_iff_lt_or_eq.1 hj with h | rfl
            · exact HA.out j h
            · rw [ba_get hka, ba_get hkb, he])
          clear he
          go_wp2_with fail
          go_quiet (fail)
          go_wp2_with fail
          go_roundw
          case rel => exact ⟨k + 1, by omega, by go_num, by go_num, HS.out, _, rfl⟩
          case measure => simp [intOf]; omega
        · have hne : ((a[k].toNat : Int) != (b[k].toNat : Int)) = true := by
            rw [bne_iff_ne]
            intro e
            exact he (u8_eq (by omega))
          have HE : Hid (cpL a.data.toList b.data.toList = k) := hid_ (cpL_is HA.out (by rw [ba_len]; omega) (by rw [ba_len]; omega) (.inr (.inr ⟨a[k], b[k], ba_get hka, ba_get hkb, he⟩)))
          clear he
          go_wp2_with fail
          go_quiet (fail)
          go_wp2_with fail
          go_ret
          refine ⟨by rw [HE.out]; rfl, ?_⟩
          first | exact ⟨_, rfl⟩ | exact ⟨_, drewN_drewN _ _ _⟩
      · obtain rfl : k = b.size := by omega
        have HE : Hid (cpL a.data.toList b.data.toList = b.size) := hid_ (cpL_is HA.out (by rw [ba_len]; omega) (by rw [ba_len]; omega) (by rw [ba_len, ba_len]; omega))
        go_wp2_with fail
        go_ret
        refine ⟨by rw [HE.out]; rfl, ?_⟩
        first | exact ⟨_, rfl⟩ | exact ⟨_, drewN_drewN _ _ _⟩
  · go_enter Try.func103, Try.ntmps103
    go_wp2
    go_loopw [5, 11] (fun n i wr => ∃ k : Nat, k ≤ a.size ∧ n = .int .i64 k ∧ i = .int .i64 k ∧ (∀ j, j < k → a.data.toList[j]? = b.data.toList[j]?) ∧ ∃ q, wr = w.drewN q) (fun _ i _ => a.size - (intOf i).toNat)
    case atStart => exact ⟨0, Nat.zero_le _, rfl, rfl, fun j hj => by omega, 0, rfl⟩
    case round =>
      obtain ⟨k, hk, rfl, rfl, hall, q, rfl⟩ := hrel
      have HA := hid_ hall
      clear hall
      by_cases hlt : k < a.size
      · have hka : k < a.size := by omega
        have hkb : k < b.size := by omega
        have hi0 : (0 : Int) ≤ (k : Int) := Int.natCast_nonneg _
        have hia : (k : Int) < (a.size : Int) := by omega
        have hib : (k : Int) < (b.size : Int) := by omega
        by_cases he : a[k] = b[k]
        · have hne : ((a[k].toNat : Int) != (b[k].toNat : Int)) = false := by rw [he]; simp
          have HS : Hid (∀ j, j < k + 1 → a.data.toList[j]? = b.data.toList[j]?) := hid_ (fun j hj => by
            rcases Nat.lt_succ_iff_lt_or_eq.1 hj with h | rfl
            · exact HA.out j h
            · rw [ba_get hka, ba_get hkb, he])
          clear he
          go_wp2_with fail
          go_quiet (fail)
          go_wp2_with fail
          go_roundw
          case rel => exact ⟨k + 1, by omega, by go_num, by go_num, HS.out, _, rfl⟩
          case measure => simp [intOf]; omega
        · have hne : ((a[k].toNat : Int) != (b[k].toNat : Int)) = true := by
            rw [bne_iff_ne]
            intro e
            exact he (u8_eq (by omega))
          have HE : Hid (cpL a.data.toList b.data.toList = k) := hid_ (cpL_is HA.out (by rw [ba_len]; omega) (by rw [ba_len]; omega) (.inr (.inr ⟨a[k], b[k], ba_get hka, ba_get hkb, he⟩)))
          clear he
          go_wp2_with fail
          go_quiet (fail)
          go_wp2_with fail
          go_ret
          refine ⟨by rw [HE.out]; rfl, ?_⟩
          first | exact ⟨_, rfl⟩ | exact ⟨_, drewN_drewN _ _ _⟩
      · obtain rfl : k = a.size := by omega
        have HE : Hid (cpL a.data.toList b.data.toList = a.size) := hid_ (cpL_is HA.out (by rw [ba_len]; omega) (by rw [ba_len]; omega) (by rw [ba_len, ba_len]; omega))
        go_wp2_with fail
        go_ret
        refine ⟨by rw [HE.out]; rfl, ?_⟩
        first | exact ⟨_, rfl⟩ | exact ⟨_, drewN_drewN _ _ _⟩

set_option maxHeartbeats 2000000 in
theorem compare_ok (a b : ByteArray) (w : World) (ha : a.size ≤ 9000000000000000000) (hb : b.size ≤ 9000000000000000000) :
    Calls Try.prog 72 #[.string a, .string b] w fun e w' => e = .returned (.int .i64 (cmpI a b)) ∧ ∃ n, w' = w.drewN n := by
  obtain ⟨n, hn⟩ : ∃ n, n = cpL a.data.toList b.data.toList := ⟨_, rfl⟩
  have hle := cpL_le a.data.toList b.data.toList
  rw [ba_len, ba_len, ← hn] at hle
  obtain ⟨hla, hlb⟩ := hle
  have HN := hid_ hn
  clear hn
  by_cases h1 : n = a.size
  · have hA : ((n : Int) == (a.size : Int)) = true := beq_iff_eq.2 (by omega)
    by_cases h2 : n = b.size
    · have hB : ((n : Int) == (b.size : Int)) = true := beq_iff_eq.2 (by omega)
      have he : a = b := ba_eq (eq_of_cp (by rw [ba_len, ← HN.out, h1]) (by rw [ba_len, ← HN.out, h2]))
      have HE : Hid (cmpI a b = 0) := hid_ (by rw [he]; exact cmp_eq b)
      clear h1 h2 he
      go_enter Try.func72, Try.ntmps72
      go_wp2_with fail
      refine (common_ok a b w ha hb).mono ?_
      rintro e w1 ⟨rfl, q, rfl⟩
      rw [← HN.out]
      go_wp2_with fail
      go_ret
      refine ⟨by rw [HE.out]; rfl, ?_⟩
      first | exact ⟨_, rfl⟩ | exact ⟨_, drewN_drewN _ _ _⟩
    · have hB : ((n : Int) == (b.size : Int)) = false := beq_eq_false_iff_ne.2 (by omega)
      have HE : Hid (cmpI a b = -1) := hid_ (cmp_lt (lt_of_end (by rw [ba_len, ← HN.out, h1]) (by rw [ba_len, ba_len]; omega)))
      clear h1 h2
      go_enter Try.func72, Try.ntmps72
      go_wp2_with fail
      refine (common_ok a b w ha hb).mono ?_
      rintro e w1 ⟨rfl, q, rfl⟩
      rw [← HN.out]
      go_wp2_with fail
      go_ret
      refine ⟨by rw [HE.out]; rfl, ?_⟩
      first | exact ⟨_, rfl⟩ | exact ⟨_, drewN_drewN _ _ _⟩
  · have hA : ((n : Int) == (a.size : Int)) = false := beq_eq_false_iff_ne.2 (by omega)
    by_cases h2 : n = b.size
    · have hB : ((n : Int) == (b.size : Int)) = true := beq_iff_eq.2 (by omega)
      have HE : Hid (cmpI a b = 1) := hid_ (cmp_gt (lt_of_end (by rw [cp_comm, ba_len, ← HN.out, h2]) (by rw [ba_len, ba_len]; omega)))
      clear h1 h2
      go_enter Try.func72, Try.ntmps72
      go_wp2_with fail
      refine (common_ok a b w ha hb).mono ?_
      rintro e w1 ⟨rfl, q, rfl⟩
      rw [← HN.out]
      go_wp2_with fail
      go_ret
      refine ⟨by rw [HE.out]; rfl, ?_⟩
      first | exact ⟨_, rfl⟩ | exact ⟨_, drewN_drewN _ _ _⟩
    · have hB : ((n : Int) == (b.size : Int)) = false := beq_eq_false_iff_ne.2 (by omega)
      have hka : n < a.size := by omega
      have hkb : n < b.size := by omega
      have hi0 : (0 : Int) ≤ (n : Int) := Int.natCast_nonneg _
      have hia : (n : Int) < (a.size : Int) := by omega
      have hib : (n : Int) < (b.size : Int) := by omega
      have ga : a.data.toList[cpL a.data.toList b.data.toList]? = some a[n] := by rw [← HN.out]; exact ba_get hka
      have gb : b.data.toList[cpL a.data.toList b.data.toList]? = some b[n] := by rw [← HN.out]; exact ba_get hkb
      have hst := cpL_stop ga gb
      by_cases h3 : a[n].toNat < b[n].toNat
      · have hC : decide (a[n].toNat < b[n].toNat) = true := decide_eq_true h3
        have HE : Hid (cmpI a b = -1) := hid_ (cmp_lt (lt_of_stop ga gb h3))
        clear h1 h2 h3 ga gb hst
        go_enter Try.func72, Try.ntmps72
        go_wp2_with fail
        refine (common_ok a b w ha hb).mono ?_
        rintro e w1 ⟨rfl, q, rfl⟩
        rw [← HN.out]
        go_wp2_with fail
        go_quiet (fail)
        go_wp2_with fail
        go_ret
        refine ⟨by rw [HE.out]; rfl, ?_⟩
        first | exact ⟨_, rfl⟩ | exact ⟨_, drewN_drewN _ _ _⟩
      · have hC : decide (a[n].toNat < b[n].toNat) = false := decide_eq_false h3
        have hgt : b[n].toNat < a[n].toNat := by
          rcases Nat.lt_trichotomy a[n].toNat b[n].toNat with h | h | h
          · exact absurd h h3
          · exact absurd (u8_eq h) hst
          · exact h
        rw [cp_comm] at ga gb
        have HE : Hid (cmpI a b = 1) := hid_ (cmp_gt (lt_of_stop gb ga hgt))
        clear h1 h2 h3 ga gb hst hgt
        go_enter Try.func72, Try.ntmps72
        go_wp2_with fail
        refine (common_ok a b w ha hb).mono ?_
        rintro e w1 ⟨rfl, q, rfl⟩
        rw [← HN.out]
        go_wp2_with fail
        go_quiet (fail)
        go_wp2_with fail
        go_ret
        refine ⟨by rw [HE.out]; rfl, ?_⟩
        first | exact ⟨_, rfl⟩ | exact ⟨_, drewN_drewN _ _ _⟩

set_option maxHeartbeats 2000000 in
theorem in_ok (low high : ByteArray) (unb : Bool) (key : ByteArray) (w : World) (h1 : low.size ≤ 9000000000000000000) (h2 : high.size ≤ 9000000000000000000) (h3 : key.size ≤ 9000000000000000000) :
    Calls Try.prog 69 #[.string low, .string high, .bool unb, .string key] w fun e w' => e = .returned (.bool (inS low high unb key)) ∧ ∃ n, w' = w.drewN n := by
  have ca := cmp_le low key
  have cb := cmp_neg key high
  cases ha : ltS key low with
  | true =>
    have hr : Hid (inS low high unb key = false) := hid_ (by simp [inS, ha])
    rw [ha] at ca
    have ca' : decide (cmpI low key ≤ 0) = false := ca
    clear ca cb ha
    go_enter Try.func69, Try.ntmps69
    go_wp2_with fail
    refine (compare_ok low key w h1 h3).mono ?_
    rintro e w1 ⟨rfl, q, rfl⟩
    go_wp2_with fail
    go_ret
    refine ⟨by rw [hr.out]; rfl, ?_⟩
    first | exact ⟨_, rfl⟩ | exact ⟨_, drewN_drewN _ _ _⟩
  | false =>
    rw [ha] at ca
    have ca' : decide (cmpI low key ≤ 0) = true := ca
    cases unb with
    | true =>
      have hr : Hid (inS low high true key = true) := hid_ (by simp [inS, ha])
      clear ca cb ha
      go_enter Try.func69, Try.ntmps69
      go_wp2_with fail
      refine (compare_ok low key w h1 h3).mono ?_
      rintro e w1 ⟨rfl, q, rfl⟩
      go_wp2_with fail
      go_ret
      refine ⟨by rw [hr.out]; rfl, ?_⟩
      first | exact ⟨_, rfl⟩ | exact ⟨_, drewN_drewN _ _ _⟩
    | false =>
      have hr : Hid (inS low high false key = ltS key high) := hid_ (by simp [inS, ha])
      have CB := hid_ cb
      clear ca cb ha
      go_enter Try.func69, Try.ntmps69
      go_wp2_with fail
      refine (compare_ok low key w h1 h3).mono ?_
      rintro e w1 ⟨rfl, q, rfl⟩
      go_wp2_with fail
      refine (compare_ok key high _ h3 h2).mono ?_
      rintro e w1 ⟨rfl, q2, rfl⟩
      go_wp2_with fail
      go_ret
      refine ⟨by rw [hr.out, ← CB.out]; rfl, ?_⟩
      first | exact ⟨_, rfl⟩ | exact ⟨_, drewN_drewN _ _ _⟩
end Go.Proofs.Ytpjbncbmdfmlpaa
namespace Go.Proofs.Ytpjbncbmdfmlpaa
open Go.RowKit
set_option linter.unusedVariables false

theorem block_of_add (a : Addr) (n : Nat) : (a.add n).block = a.block := by unfold Addr.add; split <;> rfl
theorem add_of_add (a : Addr) (i j : Nat) : (a.add i).add j = a.add (i + j) := by
  unfold Addr.add
  by_cases hi : i = 0 <;> by_cases hj : j = 0 <;> simp [hi, hj, Nat.add_assoc]
theorem add_lit (b off j : Nat) : (⟨b, off, none⟩ : Addr).add j = ⟨b, off + j, none⟩ := by
  unfold Addr.add
  split <;> simp_all

/-- The slice (A, n) holds the cells xs. -/
def Reads (w : World) (size : Nat) (A : Option Addr) (n : Nat) (xs : List Value) : Prop :=
  xs.length = n * size ∧ (0 < n → ∃ ad, A = some ad ∧ ∀ j u, xs[j]? = some u → w.cell? (ad.add j) = some u)

section
variable {w w' : World} {size n : Nat} {A : Option Addr} {xs : List Value}
theorem Reads.nil_ : Reads w size A 0 [] := ⟨by simp, fun h => absurd h (by omega)⟩
theorem Reads.cut (h : Reads w size A n xs) {k cap : Nat} (hk : k ≤ n) (hc : n ≤ cap) :
    Reads w size (if cap = k then A else A.map (·.add (k * size))) (n - k) (xs.drop (k * size)) := by
  refine ⟨by rw [List.length_drop, h.1, Nat.sub_mul], fun hn => ?_⟩
  obtain ⟨ad, rfl, hcell⟩ := h.2 (by omega)
  rw [if_neg (by omega)]
  refine ⟨ad.add (k * size), rfl, fun j u hu => ?_⟩
  rw [add_of_add]
  exact hcell _ u (by rw [← hu, List.getElem?_drop])
theorem Reads.upto (h : Reads w size A n xs) {k : Nat} (hk : k ≤ n) : Reads w size A k (xs.take (k * size)) := by
  have hm : k * size ≤ n * size := Nat.mul_le_mul_right _ hk
  refine ⟨by rw [List.length_take, h.1]; omega, fun hn => ?_⟩
  obtain ⟨ad, rfl, hcell⟩ := h.2 (by omega)
  refine ⟨ad, rfl, fun j u hu => hcell j u ?_⟩
  rw [List.getElem?_take] at hu
  split at hu
  · exact hu
  · cases hu
theorem Reads.of_own {base : Nat} {e : TypeId} {c : Nat} (h : w.ownsRow base e size (.slice A n c) n xs) : Reads w size A n xs := by
  refine ⟨h.1, fun hn => ?_⟩
  obtain ⟨g, cap, hv, _, hlt⟩ := h.form hn
  have hA : A = some ⟨g, 0, none⟩ := by injection hv
  subst hA
  exact ⟨_, rfl, h.cells (g := g) rfl⟩
/-- Kept where old cells read as they did. -/
theorem Reads.fr {S : Nat → Prop} (h : Reads w size A n xs) (hf : Fr S w w') (hS : ∀ ad, A = some ad → ¬ S ad.block) : Reads w' size A n xs :=
  ⟨h.1, fun hn => by
    obtain ⟨ad, e, hc⟩ := h.2 hn
    refine ⟨ad, e, fun j u hu => ?_⟩
    have h1 := hc j u hu
    have hlt := World.block_lt_of_cell? w _ h1
    exact (World.cell?_of_block (hf.block _ hlt (by rw [block_of_add]; exact hS ad e))).trans h1⟩
theorem Reads.none_fr (h : Reads w size A n xs) (hf : Fr none_ w w') : Reads w' size A n xs := h.fr hf (fun _ _ => id)
theorem Reads.drew (h : Reads w size A n xs) : Reads w.drew size A n xs := h
theorem Reads.alloc (h : Reads w size A n xs) (o : Obj) : Reads (w.alloc o) size A n xs := h.none_fr ((Fr.refl none_ w).alloc o)
end

theorem own_empty (w : World) (t : TypeId) (size : Nat) (base : Nat) (hb : base ≤ w.heap.size) : (w.alloc (.cells #[] t)).ownsRow base t size (.slice (some ⟨w.heap.size, 0, none⟩) 0 0) 0 [] :=
  World.ownsRow_made w #[] 0 hb (by simp) (by simp)

theorem own_empty_at (w : World) (t : TypeId) (size : Nat) (base b : Nat) (hb : base ≤ w.heap.size) (e : b = w.heap.size) : (w.alloc (.cells #[] t)).ownsRow base t size (.slice (some ⟨b, 0, none⟩) 0 0) 0 [] := by
  subst e
  exact own_empty w t size base hb

/-- A block that was just laid reads as a slice of one element. -/
theorem reads_new (w : World) (t : TypeId) (cs : List Value) (b : Nat) (e : b = w.heap.size) : Reads (w.alloc (.cells cs.toArray t)) cs.length (some ⟨b, 0, none⟩) 1 cs := by
  subst e
  refine ⟨by simp, fun _ => ⟨_, rfl, fun j u hu => ?_⟩⟩
  rw [add_lit, Nat.zero_add]
  exact (Blk.new w t cs.toArray).cell' (by simpa using hu)

/-- A row of the call's own, kept by whatever leaves its block alone. -/
theorem own_fr {w w' : World} {base : Nat} {e : TypeId} {size : Nat} {v : Value} {n : Nat} {xs : List Value} {S : Nat → Prop} (h : w.ownsRow base e size v n xs) (hf : Fr S w w') (hS : ∀ k, v.ownBlock = some k → ¬ S k) : w'.ownsRow base e size v n xs := by
  refine ⟨h.1, ?_⟩
  rcases h.2 with hn | ⟨g, cap, cur, rfl, hb, hh, rest⟩
  · exact .inl hn
  · exact .inr ⟨g, cap, cur, rfl, hb, (hf.block g (Array.getElem?_eq_some_iff.1 hh).1 (hS g rfl)).trans hh, rest⟩
theorem own_none {w w' : World} {base : Nat} {e : TypeId} {size : Nat} {v : Value} {n : Nat} {xs : List Value} (h : w.ownsRow base e size v n xs) (hf : Fr none_ w w') : w'.ownsRow base e size v n xs := own_fr h hf (fun _ _ => id)
theorem own_base {w : World} {base base' : Nat} {e : TypeId} {size : Nat} {v : Value} {n : Nat} {xs : List Value} (h : w.ownsRow base e size v n xs) (hb : base' ≤ base) : w.ownsRow base' e size v n xs := by
  refine ⟨h.1, ?_⟩
  rcases h.2 with hn | ⟨g, cap, cur, rfl, hb', rest⟩
  · exact .inl hn
  · exact .inr ⟨g, cap, cur, rfl, by omega, rest⟩
theorem own_blk_ne {w : World} {base : Nat} {e : TypeId} {size n : Nat} {v : Value} {xs : List Value} (h : w.ownsRow base e size v n xs) {g : Nat} {t : TypeId} {cs : Array Value} (hg : Blk w g t cs) (hne : e ≠ t) : v.ownBlock ≠ some g := by
  rcases h.2 with ⟨rfl, _⟩ | ⟨g', cap, cur, rfl, _, hh, _⟩
  · simp [Value.ownBlock]
  · intro he
    have : g' = g := by simpa [Value.ownBlock] using he
    subst this
    exact Blk.ne_ (t := e) hh hg hne rfl
theorem own_own_ne {w : World} {base base' : Nat} {e e' : TypeId} {size size' n n' : Nat} {v v' : Value} {xs xs' : List Value} (h : w.ownsRow base e size v n xs) (h' : w.ownsRow base' e' size' v' n' xs') (hne : e ≠ e') (k : Nat) (hk : v.ownBlock = some k) : ¬ v'.ownBlock = some k := by
  rcases h.2 with ⟨rfl, _⟩ | ⟨g, cap, cur, rfl, _, hh, _⟩
  · simp [Value.ownBlock] at hk
  · obtain rfl : g = k := by simpa [Value.ownBlock] using hk
    exact own_blk_ne h' (g := g) (t := e) (cs := cur) hh (Ne.symm hne)
/-- The parts of an owned row: its form, its cells. -/
theorem own_parts {w : World} {base : Nat} {e : TypeId} {size n : Nat} {v : Value} {xs : List Value} (h : w.ownsRow base e size v n xs) :
    ∃ A c, v = .slice A n c ∧ n ≤ c ∧ c ≤ maxLen ∧ (0 < n → ∃ g, A = some ⟨g, 0, none⟩ ∧ g < w.heap.size ∧ ∀ j u, xs[j]? = some u → w.cell? ⟨g, j, none⟩ = some u) := by
  have hR := h
  rcases h.2 with ⟨rfl, rfl⟩ | ⟨g, cap, cur, rfl, hb, hh, hc, hm, hs, ht⟩
  · exact ⟨none, 0, rfl, Nat.le_refl _, by simp, fun h => absurd h (by omega)⟩
  · refine ⟨_, _, rfl, hc, hm, fun _ => ⟨g, rfl, (Array.getElem?_eq_some_iff.1 hh).1, fun j u hu => ?_⟩⟩
    have := hR.cells (g := g) rfl j u hu
    rwa [add_lit, Nat.zero_add] at this

section
variable {P : Program} (w : World)
theorem run_append_of_nil (base : Nat) (t ty e : TypeId) (i : TypeInfo) (size : Nat) (ht : P.underlying t = some (.slice e)) (hi : P.info? e = some i)
    (v : Value) (n : Nat) (xs : List Value) (hown : w.ownsRow base e size v n xs) (c : Nat) : (Builtin.append_ #[t, t] ty #[v, .slice none 0 c]).run P w = .ok v w := by
  rcases hown.2 with ⟨rfl, rfl⟩ | ⟨g, cap, cur, rfl, _, _, hnc, _⟩
  · simp [Builtin.append_, run_underlying ht, sizeOf, typeInfo, hi, Builtin.lenOf, Builtin.firstCells]
  · simp [Builtin.append_, run_underlying ht, sizeOf, typeInfo, hi, Builtin.lenOf, Builtin.firstCells, hnc, storeCells]

theorem run_append_any (base : Nat) (t ty e : TypeId) (i : TypeInfo) (z : Value) (size bytes : Nat) (ht : P.underlying t = some (.slice e)) (hi : P.info? e = some i) (hz : i.zero = some z)
    (hsize : i.size = size) (hby : i.bytes = bytes) (hzs : z.cells.size = size) (hsz : 0 < size)
    (v : Value) (n : Nat) (xs : List Value) (hown : w.ownsRow base e size v n xs)
    (A : Option Addr) (m c : Nat) (news : List Value) (hr : Reads w size A m news) (h1 : ∀ u ∈ news, u.oneCell' = true)
    (h63 : n + m ≤ maxLen) (hbytes : (n + m) * bytes ≤ 140737488355328) (hbase : base ≤ w.heap.size) :
    ∃ v' w', (Builtin.append_ #[t, t] ty #[v, .slice A m c]).run P w = .ok v' w' ∧ w'.ownsRow base e size v' (n + m) (xs ++ news) ∧ w.grownBy w' v.ownBlock ∧
      (v'.ownBlock = v.ownBlock ∨ v'.ownBlock = some w.heap.size) := by
  rcases A with _ | ad
  · have hm : m = 0 := by
      rcases Nat.eq_zero_or_pos m with h0 | h0
      · exact h0
      · obtain ⟨ad, h, _⟩ := hr.2 h0
        cases h
    subst hm
    have hn : news = [] := List.eq_nil_of_length_eq_zero (by simpa using hr.1)
    subst hn
    exact ⟨v, w, run_append_of_nil w base t ty e i size ht hi v n xs hown c, by simpa using hown, World.grownBy.refl w _, .inl rfl⟩
  · have hcells : ∀ j u, news[j]? = some u → w.cell? (ad.add j) = some u := by
      intro j u hu
      rcases Nat.eq_zero_or_pos m with h0 | h0
      · subst h0
        have hn : news = [] := List.eq_nil_of_length_eq_zero (by simpa using hr.1)
        subst hn
        simp at hu
      · obtain ⟨ad', h, hc⟩ := hr.2 h0
        injection h with h
        subst h
        exact hc j u hu
    obtain ⟨v', w', hrun, h2, h3, _, h5⟩ := run_append_own_at (P := P) w base t ty e i z size bytes ht hi hz hsize hby hzs hsz v n xs hown ad m c news hr.1 hcells h1 h63 hbytes hbase
    exact ⟨v', w', hrun, h2, h3, h5⟩

theorem wp_append_any {o : Oper} {a : Act} {K : Act → World → Prop} {Q : Exit → Act → World → Prop} (s x : Operand) (t : TypeId)
    (ho : o.op = .call { callee := .builtin .append, args := #[s, x], argTypes := #[t, t] })
    (base : Nat) (e : TypeId) (i : TypeInfo) (z : Value) (size bytes : Nat) (ht : P.underlying t = some (.slice e)) (hi : P.info? e = some i) (hz : i.zero = some z)
    (hsize : i.size = size) (hby : i.bytes = bytes) (hzs : z.cells.size = size) (hsz : 0 < size)
    (v : Value) (n : Nat) (xs : List Value) (hs : a.eval s = v) (hown : w.ownsRow base e size v n xs)
    (A : Option Addr) (m c : Nat) (news : List Value) (hx : a.eval x = .slice A m c) (hr : Reads w size A m news) (h1 : ∀ u ∈ news, u.oneCell' = true)
    (h63 : n + m ≤ maxLen) (hbytes : (n + m) * bytes ≤ 140737488355328) (hbase : base ≤ w.heap.size)
    (h : ∀ A' c' w', w'.ownsRow base e size (.slice A' (n + m) c') (n + m) (xs ++ news) → w.grownBy w' v.ownBlock → K (a.put o.dst (.slice A' (n + m) c')) w') : o.wp P a w K Q := by
  obtain ⟨v', w', hrun, h2, h3, h4⟩ := run_append_any (P := P) w base t o.type e i z size bytes ht hi hz hsize hby hzs hsz v n xs hown A m c news hr h1 h63 hbytes hbase
  obtain ⟨A', c', rfl⟩ := h2.shape
  unfold Oper.wp execOp
  simp only [ho, resolve, invoke, builtin, Sem.run_bind, Sem.run_pure, Result.andThen_ok, List.map_toArray, List.map_cons, List.map_nil, hs, hx, hrun]
  exact h A' c' w' h2 h3

theorem wpList_append_any {ops : Array Oper} {rest : List Oper} {o : Oper} {a : Act} {Q : Exit → Act → World → Prop} (hgd : o.guard = none) (s x : Operand) (t : TypeId)
    (ho : o.op = .call { callee := .builtin .append, args := #[s, x], argTypes := #[t, t] })
    (base : Nat) (e : TypeId) (i : TypeInfo) (z : Value) (size bytes : Nat) (ht : P.underlying t = some (.slice e)) (hi : P.info? e = some i) (hz : i.zero = some z)
    (hsize : i.size = size) (hby : i.bytes = bytes) (hzs : z.cells.size = size) (hsz : 0 < size)
    (v : Value) (n : Nat) (xs : List Value) (hs : a.eval s = v) (hown : w.ownsRow base e size v n xs)
    (A : Option Addr) (m c : Nat) (news : List Value) (hx : a.eval x = .slice A m c) (hr : Reads w size A m news) (h1 : ∀ u ∈ news, u.oneCell' = true)
    (h63 : n + m ≤ maxLen) (hbytes : (n + m) * bytes ≤ 140737488355328) (hbase : base ≤ w.heap.size)
    (h : ∀ A' c' w', w'.ownsRow base e size (.slice A' (n + m) c') (n + m) (xs ++ news) → w.grownBy w' v.ownBlock → wpList P ops Q rest (a.put o.dst (.slice A' (n + m) c')) w') : wpList P ops Q (o :: rest) a w :=
  wpList_plain hgd fun _ hK => wp_append_any w s x t ho base e i z size bytes ht hi hz hsize hby hzs hsz v n xs hs hown A m c news hx hr h1 h63 hbytes hbase fun A' c' w' h2 h3 => hK _ _ (h A' c' w' h2 h3)

end
end Go.Proofs.Ytpjbncbmdfmlpaa
namespace Go.Proofs.Ytpjbncbmdfmlpaa
open Go.RowKit
set_option linter.unusedVariables false

theorem Fr.toOnly {a w : World} {p : Addr} (h : Fr none_ a w) (u : Value) : Fr (only p.block) a (w.setCell p u) :=
  (h.mono (S' := only p.block) (fun _ _ e => e.elim)).setCell (p := p) (.inl (Eq.refl _)) u
theorem Fr.only1 (w : World) (p : Addr) (u : Value) : Fr (only p.block) w (w.setCell p u) := (Fr.refl none_ w).toOnly u
theorem cellFr {w w' : World} {p : Addr} {v : Value} (h : w.cell? p = some v) (hf : Fr none_ w w') : w'.cell? p = some v :=
  (World.cell?_of_block (hf.block _ (World.block_lt_of_cell? w _ h) id)).trans h
theorem cellFrS {S : Nat → Prop} {w w' : World} {p : Addr} {v : Value} (h : w.cell? p = some v) (hf : Fr S w w') (hS : ¬ S p.block) : w'.cell? p = some v :=
  (World.cell?_of_block (hf.block _ (World.block_lt_of_cell? w _ h) hS)).trans h

theorem choose_list {α : Type} {P : Nat → α → Prop} : ∀ (n : Nat), (∀ k, k < n → ∃ x, P k x) → ∃ L : List α, L.length = n ∧ ∀ k x, L[k]? = some x → P k x
  | 0, _ => ⟨[], rfl, fun k x h => by simp at h⟩
  | n + 1, h => by
    obtain ⟨L, hl, hL⟩ := choose_list n (fun k hk => h k (by omega))
    obtain ⟨x, hx⟩ := h n (by omega)
    refine ⟨L ++ [x], by simp [hl], fun k y hy => ?_⟩
    rcases Nat.lt_or_ge k L.length with h1 | h1
    · rw [List.getElem?_append_left h1] at hy; exact hL k y hy
    · rw [List.getElem?_append_right h1] at hy
      have : k - L.length = 0 := by
        rcases Nat.eq_zero_or_pos (k - L.length) with h2 | h2
        · exact h2
        · rw [List.getElem?_eq_none (by simp; omega)] at hy; cases hy
      rw [this] at hy
      obtain rfl : x = y := by simpa using hy
      obtain rfl : k = n := by omega
      exact hx
section
variable {P : Program} (w : World)
/-- append, at the operation, with where the new row lies. -/
theorem wp_append_at {o : Oper} {a : Act} {K : Act → World → Prop} {Q : Exit → Act → World → Prop} (s x : Operand) (t : TypeId)
    (ho : o.op = .call { callee := .builtin .append, args := #[s, x], argTypes := #[t, t] })
    (base : Nat) (e : TypeId) (i : TypeInfo) (z : Value) (size bytes : Nat) (ht : P.underlying t = some (.slice e)) (hi : P.info? e = some i) (hz : i.zero = some z)
    (hsize : i.size = size) (hby : i.bytes = bytes) (hzs : z.cells.size = size) (hsz : 0 < size)
    (v : Value) (n : Nat) (xs : List Value) (hs : a.eval s = v) (hown : w.ownsRow base e size v n xs)
    (A : Option Addr) (m c : Nat) (news : List Value) (hx : a.eval x = .slice A m c) (hr : Reads w size A m news) (h1 : ∀ u ∈ news, u.oneCell' = true)
    (h63 : n + m ≤ maxLen) (hbytes : (n + m) * bytes ≤ 140737488355328) (hbase : base ≤ w.heap.size)
    (h : ∀ v' w', w'.ownsRow base e size v' (n + m) (xs ++ news) → w.grownBy w' v.ownBlock → (v'.ownBlock = v.ownBlock ∨ v'.ownBlock = some w.heap.size) → K (a.put o.dst v') w') : o.wp P a w K Q := by
  obtain ⟨v', w', hrun, h2, h3, h4⟩ := run_append_any (P := P) w base t o.type e i z size bytes ht hi hz hsize hby hzs hsz v n xs hown A m c news hr h1 h63 hbytes hbase
  unfold Oper.wp execOp
  simp only [ho, resolve, invoke, builtin, Sem.run_bind, Sem.run_pure, Result.andThen_ok, List.map_toArray, List.map_cons, List.map_nil, hs, hx, hrun]
  exact h v' w' h2 h3 h4
end
end Go.Proofs.Ytpjbncbmdfmlpaa
namespace Go.Proofs.Ytpjbncbmdfmlpaa
open Go.ChangeShapes Go.WideShapes Go.RowKit Go.Deep

inductive Leaf where
  | int (k : IntKind)
  | bool
  | string
  | slice (t : TypeId)

/-- The cells of a value of type t: each one's place and kind. -/
def leaves (P : Program) : Nat → TypeId → List (Nat × Leaf)
  | 0, _ => []
  | n + 1, t =>
    match P.underlying t with
    | some .bool => [(0, .bool)]
    | some (.int k) => [(0, .int k)]
    | some .string => [(0, .string)]
    | some (.slice _) => [(0, .slice t)]
    | some (.struct fs) => fs.toList.flatMap fun f => (leaves P n f.type).map fun x => (f.offset + x.1, x.2)
    | _ => []

section
variable {H : Type} (enc : TypeId × Value → H) (P : Program) (w : World)

/-- A cell is of a kind; a slice's elements read as data, and lie below the heap's end. -/
def Conf : Leaf → Value → Prop
  | .int k, v => ∃ n, v = .int k n ∧ (Lit.int k n).wf = true
  | .bool, v => ∃ b, v = .bool b
  | .string, v => ∃ s : ByteArray, v = .string s ∧ s.size ≤ reachBytes
  | .slice t, v => ∃ fuel d ps, DataW.trod enc P w 0 (fun _ => true) true fuel t [v] = some (d, ps) ∧ (∀ p ∈ ps, p.block < w.heap.size) ∧ (∀ x ∈ d.weights P t, x ≤ reachBytes)
end

section
variable {H : Type} {enc : TypeId × Value → H} {P : Program} {w : World}

theorem leaves_conf : ∀ (n : Nat) (t : TypeId) (fuel : Nat) (cs : List Value) (x : DataW H × List MemPlace), DataW.trod enc P w 0 (fun _ => true) true fuel t cs = some x →
    (∀ p ∈ x.2, p.block < w.heap.size) → (∀ y ∈ x.1.weights P t, y ≤ reachBytes) → ∀ o l, (o, l) ∈ leaves P n t → ∃ v, cs[o]? = some v ∧ Conf enc P w l v := by
  intro n
  induction n with
  | zero => intro t fuel cs x _ _ _ o l h; simp [leaves] at h
  | succ n ih =>
    intro t fuel cs x h hlt hwt o l hl
    simp only [leaves] at hl
    split at hl
    · rename_i hu
      obtain ⟨rfl, rfl⟩ : o = 0 ∧ l = .bool := by simpa using hl
      obtain ⟨b, rfl, _⟩ := DataW.trod_bool hu h
      exact ⟨_, rfl, b, rfl⟩
    · rename_i k hu
      obtain ⟨rfl, rfl⟩ : o = 0 ∧ l = .int k := by simpa using hl
      obtain ⟨b, rfl, _, hwf⟩ := DataW.trod_int hu h
      exact ⟨_, rfl, b, rfl, hwf⟩
    · rename_i hu
      obtain ⟨rfl, rfl⟩ : o = 0 ∧ l = .string := by simpa using hl
      obtain ⟨s, rfl, hx, _⟩ := DataW.trod_string hu h
      refine ⟨_, rfl, s, rfl, ?_⟩
      subst hx
      simpa [DataW.weights] using hwt
    · rename_i e hu
      obtain ⟨rfl, rfl⟩ : o = 0 ∧ l = .slice t := by simpa using hl
      rcases DataW.trod_slice hu h with ⟨rfl, _⟩ | ⟨a, len, cap, elems, rest, m, _, rfl, _⟩
      · exact ⟨_, rfl, fuel, x.1, x.2, h, hlt, hwt⟩
      · exact ⟨_, rfl, fuel, x.1, x.2, h, hlt, hwt⟩
    · rename_i fs hu
      obtain ⟨f, hf, hx⟩ := List.mem_flatMap.1 hl
      obtain ⟨⟨o', l'⟩, hm, he⟩ := List.mem_map.1 hx
      obtain ⟨rfl, rfl⟩ : f.offset + o' = o ∧ l' = l := by simpa using he
      obtain ⟨xs, m, _, rfl, _, hlen, hg⟩ := DataW.trod_struct hu h
      obtain ⟨i, hi, hfi⟩ := List.mem_iff_getElem.1 hf
      have hfi' : fs[i]? = some f := by
        rw [← Array.getElem?_toList, List.getElem?_eq_getElem hi, hfi]
      have hil : i < xs.length := by rw [hlen]; simpa using hi
      have hgi := hg i f hfi'
      rw [List.getElem?_eq_getElem hil] at hgi
      obtain ⟨v, hv, hc⟩ := ih f.type m _ xs[i] hgi (fun p hp => hlt p (List.mem_flatMap.2 ⟨xs[i], List.getElem_mem hil, hp⟩)) (fun y hy => hwt y (by
        simp only [DataW.weights, hu]
        refine DataW.weights_mem_each (j := i) (t := f.type) (d := xs[i].1) ?_ ?_ y hy
        · rw [List.getElem?_map, List.getElem?_eq_getElem hi, hfi]; rfl
        · rw [List.getElem?_map, List.getElem?_eq_getElem hil]; rfl)) o' l' hm
      refine ⟨v, ?_, hc⟩
      rw [List.getElem?_take] at hv
      split at hv
      · rw [List.getElem?_drop] at hv; exact hv
      · cases hv
    · simp at hl

theorem weightsAll_mem {e : TypeId} : ∀ {l : List (DataW H)} {d : DataW H}, d ∈ l → ∀ y ∈ d.weights P e, y ∈ DataW.weightsAll P e l
  | x :: r, d, h, y, hy => by
    simp only [DataW.weightsAll, List.mem_append]
    rcases List.mem_cons.1 h with rfl | h
    · exact .inl hy
    · exact .inr (weightsAll_mem h y hy)

/-- A slice of flat things, opened: its address is asked for only where it has elements. -/
def Rd (enc : TypeId × Value → H) (P : Program) (w : World) (m e : Nat) (A : Option Addr) (n : Nat) : Prop :=
  0 < n → ∃ b off, A = some ⟨b, off, none⟩ ∧ b < w.heap.size ∧ ∀ k, k < n → ∀ o l, (o, l) ∈ leaves P m e → ∃ u, w.cell? ⟨b, off + k * P.cellsOf e + o, none⟩ = some u ∧ Conf enc P w l u

theorem open_list (m : Nat) {t e : TypeId} {fuel : Nat} {v : Value} {d : DataW H} {ps : List MemPlace} (ht : P.underlying t = some (.slice e)) (h : DataW.trod enc P w 0 (fun _ => true) true fuel t [v] = some (d, ps))
    (hlt : ∀ p ∈ ps, p.block < w.heap.size) (hwt : ∀ y ∈ d.weights P t, y ≤ reachBytes) (hne : (leaves P m e).isEmpty = false) (hin : (leaves P m e).all (fun x => decide (x.1 < P.cellsOf e)) = true) :
    ∃ A n c, v = .slice A n c ∧ n ≤ c ∧ c ≤ maxLen ∧ c * P.bytesOf e ≤ reachBytes ∧ (A = none → n = 0 ∧ c = 0) ∧ Rd enc P w m e A n := by
  rcases open_slice ht h with ⟨hv, hx⟩ | ⟨a, len, cap, m', fu, D, Pl, hv, hb, hl, hm, hmm, hx, hi⟩
  · obtain rfl : v = .slice none 0 0 := by simpa using hv
    exact ⟨none, 0, 0, rfl, Nat.le_refl _, by simp, by simp, fun _ => ⟨rfl, rfl⟩, fun h => absurd h (by omega)⟩
  · obtain rfl : v = .slice (some a) len cap := by simpa using hv
    simp only [if_true] at hmm
    subst hmm
    obtain ⟨rfl, rfl⟩ : d = _ ∧ ps = _ := by simpa using hx
    have hwd : (((List.range len).map D).length + ((List.range (m' - len)).map fun j => D (len + j)).length) * P.bytesOf e ≤ reachBytes := by
      refine hwt _ ?_
      simp only [DataW.weights, ht]
      exact List.mem_cons_self
    have hcap : m' * P.bytesOf e ≤ reachBytes := by
      simp only [List.length_map, List.length_range] at hwd
      rwa [show len + (m' - len) = m' by omega] at hwd
    refine ⟨some a, len, m', rfl, hl, hm, hcap, (fun h => by cases h), fun hn => ?_⟩
    have hsz : 0 < P.cellsOf e := by
      cases hlv : leaves P m e with
      | nil => rw [hlv] at hne; cases hne
      | cons y ys => rw [hlv] at hin; simp at hin; omega
    have hcell : ∀ k, k < len → ∃ cs : List Value, cs.length = P.cellsOf e ∧ (∀ j, j < P.cellsOf e → w.cell? (a.add (k * P.cellsOf e + j)) = cs[j]?) ∧ ∀ o l, (o, l) ∈ leaves P m e → ∃ v, cs[o]? = some v ∧ Conf enc P w l v := by
      intro k hk
      obtain ⟨cs, hc, htr⟩ := hi k (by omega)
      obtain ⟨_, hcl, hat⟩ := World.cells?_some hc
      refine ⟨cs, hcl, fun j hj => by rw [← hat j hj, add_add], leaves_conf m e fu cs _ htr ?_ ?_⟩
      · intro p hp
        refine hlt p ?_
        rw [List.mem_append]
        exact .inr (List.mem_flatMap.2 ⟨k, List.mem_range.2 (by omega), hp⟩)
      · intro y hy
        refine hwt y ?_
        simp only [DataW.weights, ht, List.mem_cons, List.mem_append]
        exact .inr (.inl (weightsAll_mem (List.mem_map.2 ⟨k, List.mem_range.2 hk, rfl⟩) y hy))
    obtain ⟨cs0, hcl0, hat0, _⟩ := hcell 0 hn
    have h00 := hat0 0 hsz
    have hsome : ∃ u, w.cell? a = some u := by
      have : a.add (0 * P.cellsOf e + 0) = a := by simp [Addr.add]
      rw [this, List.getElem?_eq_getElem (by omega)] at h00
      exact ⟨_, h00⟩
    obtain ⟨u0, hu0⟩ := hsome
    have hspot : a.spot = none := by
      unfold World.cell? at hu0
      split at hu0
      · split at hu0
        · cases hu0
        · rename_i hs; simpa using hs
      · cases hu0
    obtain ⟨b, off, sp⟩ := a
    simp only at hspot
    subst hspot
    have hadd : ∀ j, (⟨b, off, none⟩ : Addr).add j = ⟨b, off + j, none⟩ := by
      intro j
      unfold Addr.add
      split <;> simp_all
    refine ⟨b, off, rfl, World.block_lt_of_cell? w _ hu0, fun k hk o l hol => ?_⟩
    obtain ⟨cs, hcl, hat, hcf⟩ := hcell k hk
    obtain ⟨v, hv, hc⟩ := hcf o l hol
    refine ⟨v, ?_, hc⟩
    have hoe : o < P.cellsOf e := by
      have := List.all_eq_true.1 hin _ hol
      simpa using this
    have := hat o hoe
    rw [hadd, hv] at this
    rw [Nat.add_assoc]
    exact this

theorem open_slice_arg (m : Nat) {t e : TypeId} {r : Reach} {b0 : Nat} {v : Value} {d : DataW H} {ps : List MemPlace} (ht : P.underlying t = some (.slice e)) (hv : Value.okWide P w r b0 t v) (h : DataW.Trod enc P w 0 (fun _ => true) true t v d ps)
    (hlt : ∀ p ∈ ps, p.block < w.heap.size) (hwt : ∀ y ∈ d.weights P t, y ≤ reachBytes) (hne : (leaves P m e).isEmpty = false) (hin : (leaves P m e).all (fun x => decide (x.1 < P.cellsOf e)) = true) :
    ∃ A n c, v = .slice A n c ∧ n ≤ c ∧ c ≤ maxLen ∧ c * P.bytesOf e ≤ reachBytes ∧ (A = none → n = 0 ∧ c = 0) ∧ Rd enc P w m e A n := by
  obtain ⟨a0, len, cap, rfl⟩ := okWide_slice ht hv
  obtain ⟨fuel, hf⟩ := h
  exact open_list m ht (by simpa [Value.cells] using hf) hlt hwt hne hin
end
end Go.Proofs.Ytpjbncbmdfmlpaa
namespace Go.Proofs.Ytpjbncbmdfmlpaa
open Go.ChangeShapes Go.WideShapes Go.RowKit
set_option maxRecDepth 100000
set_option linter.unusedVariables false
set_option linter.unusedSimpArgs false

theorem cells_Row : Try.prog.cellsOf 62 = 2 := by kernel_rfl
theorem leaves_Row : leaves Try.prog 6 62 = [(0, .string), (1, .string)] := by kernel_rfl
def RowAt (w : World) (A : Option Addr) (n : Nat) : Prop :=
  0 < n → ∃ b off, A = some ⟨b, off, none⟩ ∧ b < w.heap.size ∧ ∀ k, k < n → ∃ (x0 : ByteArray) (x1 : ByteArray), x0.size ≤ reachBytes ∧ x1.size ≤ reachBytes ∧ w.cell? ⟨b, off + k * 2, none⟩ = some (.string x0) ∧ w.cell? ⟨b, off + k * 2 + 1, none⟩ = some (.string x1)
theorem Row_at {H : Type} {enc : TypeId × Value → H} {w : World} {A : Option Addr} {n : Nat} (h : Rd enc Try.prog w 6 62 A n) : RowAt w A n := by
  intro hn
  obtain ⟨b, off, hA, hb, hc⟩ := h hn
  refine ⟨b, off, hA, hb, fun k hk => ?_⟩
  have hk := hc k hk
  rw [leaves_Row, cells_Row] at hk
  obtain ⟨_, h0, x0, rfl, w0⟩ := hk 0 .string (by simp)
  obtain ⟨_, h1, x1, rfl, w1⟩ := hk 1 .string (by simp)
  exact ⟨x0, x1, w0, w1, h0, h1⟩
theorem cells_Entry : Try.prog.cellsOf 64 = 2 := by kernel_rfl
theorem leaves_Entry : leaves Try.prog 6 64 = [(0, .string), (1, .int .i64)] := by kernel_rfl
def EntryAt (w : World) (A : Option Addr) (n : Nat) : Prop :=
  0 < n → ∃ b off, A = some ⟨b, off, none⟩ ∧ b < w.heap.size ∧ ∀ k, k < n → ∃ (x0 : ByteArray) (x1 : Int), x0.size ≤ reachBytes ∧ (Lit.int .i64 x1).wf = true ∧ w.cell? ⟨b, off + k * 2, none⟩ = some (.string x0) ∧ w.cell? ⟨b, off + k * 2 + 1, none⟩ = some (.int .i64 x1)
theorem Entry_at {H : Type} {enc : TypeId × Value → H} {w : World} {A : Option Addr} {n : Nat} (h : Rd enc Try.prog w 6 64 A n) : EntryAt w A n := by
  intro hn
  obtain ⟨b, off, hA, hb, hc⟩ := h hn
  refine ⟨b, off, hA, hb, fun k hk => ?_⟩
  have hk := hc k hk
  rw [leaves_Entry, cells_Entry] at hk
  obtain ⟨_, h0, x0, rfl, w0⟩ := hk 0 .string (by simp)
  obtain ⟨_, h1, x1, rfl, w1⟩ := hk 1 (.int .i64) (by simp)
  exact ⟨x0, x1, w0, w1, h0, h1⟩
theorem cells_Record : Try.prog.cellsOf 58 = 15 := by kernel_rfl
theorem leaves_Record : leaves Try.prog 6 58 = [(0, .int .i64), (1, .string), (2, .string), (3, .bool), (4, .int .i64), (5, .slice 36), (6, .slice 39), (7, .string), (8, .string), (9, .int .i64), (10, .int .i64), (11, .int .i64), (12, .string), (13, .int .i64), (14, .int .i64)] := by kernel_rfl
def RecordAt {H : Type} (enc : TypeId × Value → H) (w : World) (A : Option Addr) (n : Nat) : Prop :=
  0 < n → ∃ b off, A = some ⟨b, off, none⟩ ∧ b < w.heap.size ∧ ∀ k, k < n → ∃ (x0 : Int) (x1 : ByteArray) (x2 : ByteArray) (x3 : Bool) (x4 : Int) (x5 : Value) (x6 : Value) (x7 : ByteArray) (x8 : ByteArray) (x9 : Int) (x10 : Int) (x11 : Int) (x12 : ByteArray) (x13 : Int) (x14 : Int), (Lit.int .i64 x0).wf = true ∧ x1.size ≤ reachBytes ∧ x2.size ≤ reachBytes ∧ (Lit.int .i64 x4).wf = true ∧ Conf enc Try.prog w (.slice 36) x5 ∧ Conf enc Try.prog w (.slice 39) x6 ∧ x7.size ≤ reachBytes ∧ x8.size ≤ reachBytes ∧ (Lit.int .i64 x9).wf = true ∧ (Lit.int .i64 x10).wf = true ∧ (Lit.int .i64 x11).wf = true ∧ x12.size ≤ reachBytes ∧ (Lit.int .i64 x13).wf = true ∧ (Lit.int .i64 x14).wf = true ∧ w.cell? ⟨b, off + k * 15, none⟩ = some (.int .i64 x0) ∧ w.cell? ⟨b, off + k * 15 + 1, none⟩ = some (.string x1) ∧ w.cell? ⟨b, off + k * 15 + 1 + 1, none⟩ = some (.string x2) ∧ w.cell? ⟨b, off + k * 15 + 1 + 1 + 1, none⟩ = some (.bool x3) ∧ w.cell? ⟨b, off + k * 15 + 1 + 1 + 1 + 1, none⟩ = some (.int .i64 x4) ∧ w.cell? ⟨b, off + k * 15 + 1 + 1 + 1 + 1 + 1, none⟩ = some (x5) ∧ w.cell? ⟨b, off + k * 15 + 1 + 1 + 1 + 1 + 1 + 1, none⟩ = some (x6) ∧ w.cell? ⟨b, off + k * 15 + 1 + 1 + 1 + 1 + 1 + 1 + 1, none⟩ = some (.string x7) ∧ w.cell? ⟨b, off + k * 15 + 1 + 1 + 1 + 1 + 1 + 1 + 1 + 1, none⟩ = some (.string x8) ∧ w.cell? ⟨b, off + k * 15 + 1 + 1 + 1 + 1 + 1 + 1 + 1 + 1 + 1, none⟩ = some (.int .i64 x9) ∧ w.cell? ⟨b, off + k * 15 + 1 + 1 + 1 + 1 + 1 + 1 + 1 + 1 + 1 + 1, none⟩ = some (.int .i64 x10) ∧ w.cell? ⟨b, off + k * 15 + 1 + 1 + 1 + 1 + 1 + 1 + 1 + 1 + 1 + 1 + 1, none⟩ = some (.int .i64 x11) ∧ w.cell? ⟨b, off + k * 15 + 1 + 1 + 1 + 1 + 1 + 1 + 1 + 1 + 1 + 1 + 1 + 1, none⟩ = some (.string x12) ∧ w.cell? ⟨b, off + k * 15 + 1 + 1 + 1 + 1 + 1 + 1 + 1 + 1 + 1 + 1 + 1 + 1 + 1, none⟩ = some (.int .i64 x13) ∧ w.cell? ⟨b, off + k * 15 + 1 + 1 + 1 + 1 + 1 + 1 + 1 + 1 + 1 + 1 + 1 + 1 + 1 + 1, none⟩ = some (.int .i64 x14)
theorem Record_at {H : Type} {enc : TypeId × Value → H} {w : World} {A : Option Addr} {n : Nat} (h : Rd enc Try.prog w 6 58 A n) : RecordAt enc w A n := by
  intro hn
  obtain ⟨b, off, hA, hb, hc⟩ := h hn
  refine ⟨b, off, hA, hb, fun k hk => ?_⟩
  have hk := hc k hk
  rw [leaves_Record, cells_Record] at hk
  obtain ⟨_, h0, x0, rfl, w0⟩ := hk 0 (.int .i64) (by simp)
  obtain ⟨_, h1, x1, rfl, w1⟩ := hk 1 .string (by simp)
  obtain ⟨_, h2, x2, rfl, w2⟩ := hk 2 .string (by simp)
  obtain ⟨_, h3, x3, rfl⟩ := hk 3 .bool (by simp)
  obtain ⟨_, h4, x4, rfl, w4⟩ := hk 4 (.int .i64) (by simp)
  obtain ⟨x5, h5, w5⟩ := hk 5 (.slice 36) (by simp)
  obtain ⟨x6, h6, w6⟩ := hk 6 (.slice 39) (by simp)
  obtain ⟨_, h7, x7, rfl, w7⟩ := hk 7 .string (by simp)
  obtain ⟨_, h8, x8, rfl, w8⟩ := hk 8 .string (by simp)
  obtain ⟨_, h9, x9, rfl, w9⟩ := hk 9 (.int .i64) (by simp)
  obtain ⟨_, h10, x10, rfl, w10⟩ := hk 10 (.int .i64) (by simp)
  obtain ⟨_, h11, x11, rfl, w11⟩ := hk 11 (.int .i64) (by simp)
  obtain ⟨_, h12, x12, rfl, w12⟩ := hk 12 .string (by simp)
  obtain ⟨_, h13, x13, rfl, w13⟩ := hk 13 (.int .i64) (by simp)
  obtain ⟨_, h14, x14, rfl, w14⟩ := hk 14 (.int .i64) (by simp)
  exact ⟨x0, x1, x2, x3, x4, x5, x6, x7, x8, x9, x10, x11, x12, x13, x14, w0, w1, w2, w4, w5, w6, w7, w8, w9, w10, w11, w12, w13, w14, h0, h1, h2, h3, h4, h5, h6, h7, h8, h9, h10, h11, h12, h13, h14⟩
end Go.Proofs.Ytpjbncbmdfmlpaa
namespace Go.Proofs.Ytpjbncbmdfmlpaa
open Go.ChangeShapes Go.WideShapes Go.RowKit
set_option maxRecDepth 100000
set_option linter.unusedVariables false

abbrev Rw := ByteArray × ByteArray
abbrev Et := ByteArray × Int
structure Rc where
  kind : Int
  low : ByteArray
  high : ByteArray
  unb : Bool
  right : Int
  rows : List Rw
  ents : List Et
  key : ByteArray
  val : ByteArray
  page : Int
  hpage : Int
  hleft : Int
  hkey : ByteArray
  nslot : Int
  ngen : Int
abbrev nilS : ByteArray := ⟨#[]⟩
def Rc.zero : Rc := ⟨0, nilS, nilS, false, 0, [], [], nilS, nilS, 0, 0, 0, nilS, 0, 0⟩
abbrev recA (R : Rc) (vr ve : Value) : Array Value := #[.int .i64 R.kind, .string R.low, .string R.high, .bool R.unb, .int .i64 R.right, vr, ve, .string R.key, .string R.val, .int .i64 R.page, .int .i64 R.hpage, .int .i64 R.hleft, .string R.hkey, .int .i64 R.nslot, .int .i64 R.ngen]
abbrev recV (R : Rc) (vr ve : Value) : Value := .agg (recA R vr ve)
abbrev recB (R : Rc) (vr ve : Value) : Obj := .cells (recA R vr ve) 58

def rwCells (p : Rw) : List Value := [.string p.1, .string p.2]
def etCells (p : Et) : List Value := [.string p.1, .int .i64 p.2]
def rwFlat (L : List Rw) : List Value := (L.map rwCells).flatten
def etFlat (L : List Et) : List Value := (L.map etCells).flatten
theorem rwFlat_len (L : List Rw) : (rwFlat L).length = L.length * 2 := by
  unfold rwFlat
  induction L with
  | nil => rfl
  | cons p t ih => simp [rwCells] at ih ⊢; omega
theorem etFlat_len (L : List Et) : (etFlat L).length = L.length * 2 := by
  unfold etFlat
  induction L with
  | nil => rfl
  | cons p t ih => simp [etCells] at ih ⊢; omega
theorem rwFlat_one (L : List Rw) : ∀ u ∈ rwFlat L, u.oneCell' = true := by
  intro u hu
  simp only [rwFlat, List.mem_flatten, List.mem_map] at hu
  obtain ⟨l, ⟨p, _, rfl⟩, hu⟩ := hu
  simp only [rwCells, List.mem_cons, List.not_mem_nil, or_false] at hu
  rcases hu with rfl | rfl <;> rfl
theorem etFlat_one (L : List Et) : ∀ u ∈ etFlat L, u.oneCell' = true := by
  intro u hu
  simp only [etFlat, List.mem_flatten, List.mem_map] at hu
  obtain ⟨l, ⟨p, _, rfl⟩, hu⟩ := hu
  simp only [etCells, List.mem_cons, List.not_mem_nil, or_false] at hu
  rcases hu with rfl | rfl <;> rfl
theorem rwFlat_get : ∀ (L : List Rw) (i : Nat) (p : Rw), L[i]? = some p → (rwFlat L)[i * 2]? = some (.string p.1) ∧ (rwFlat L)[i * 2 + 1]? = some (.string p.2)
  | [], i, p, h => by simp at h
  | q :: L, 0, p, h => by
    obtain rfl : q = p := by simpa using h
    simp [rwFlat, rwCells]
  | q :: L, i + 1, p, h => by
    have := rwFlat_get L i p (by simpa using h)
    rw [show (i + 1) * 2 = i * 2 + 1 + 1 by omega]
    simpa [rwFlat, rwCells] using this
theorem etFlat_get : ∀ (L : List Et) (i : Nat) (p : Et), L[i]? = some p → (etFlat L)[i * 2]? = some (.string p.1) ∧ (etFlat L)[i * 2 + 1]? = some (.int .i64 p.2)
  | [], i, p, h => by simp at h
  | q :: L, 0, p, h => by
    obtain rfl : q = p := by simpa using h
    simp [etFlat, etCells]
  | q :: L, i + 1, p, h => by
    have := etFlat_get L i p (by simpa using h)
    rw [show (i + 1) * 2 = i * 2 + 1 + 1 by omega]
    simpa [etFlat, etCells] using this
theorem flat2_inv {α : Type} (f g : α → Value) : ∀ (L : List α) (j : Nat) (u : Value), ((L.map fun p => [f p, g p]).flatten)[j]? = some u → ∃ (k : Nat) (p : α), L[k]? = some p ∧ ((j = k * 2 ∧ u = f p) ∨ (j = k * 2 + 1 ∧ u = g p))
  | [], j, u, h => by simp at h
  | q :: L, j, u, h => by
    simp only [List.map_cons, List.flatten_cons] at h
    match j, h with
    | 0, h => exact ⟨0, q, rfl, .inl ⟨rfl, by simpa using h.symm⟩⟩
    | 1, h => exact ⟨0, q, rfl, .inr ⟨rfl, by simpa using h.symm⟩⟩
    | j + 2, h =>
      obtain ⟨k, p, hp, hh⟩ := flat2_inv f g L j u (by simpa using h)
      refine ⟨k + 1, p, by simpa using hp, ?_⟩
      rcases hh with ⟨e, hu⟩ | ⟨e, hu⟩
      · exact .inl ⟨by omega, hu⟩
      · exact .inr ⟨by omega, hu⟩

/-- Rows that came in, as a list (all texts of the reach). -/
def RwReads (w : World) (A : Option Addr) (n : Nat) (L : List Rw) : Prop :=
  L.length = n ∧ (0 < n → ∃ b off, A = some ⟨b, off, none⟩ ∧ b < w.heap.size ∧ ∀ k p, L[k]? = some p →
    (p.1.size ≤ reachBytes ∧ p.2.size ≤ reachBytes) ∧ w.cell? ⟨b, off + k * 2, none⟩ = some (.string p.1) ∧ w.cell? ⟨b, off + k * 2 + 1, none⟩ = some (.string p.2))
def EtReads (w : World) (A : Option Addr) (n : Nat) (L : List Et) : Prop :=
  L.length = n ∧ (0 < n → ∃ b off, A = some ⟨b, off, none⟩ ∧ b < w.heap.size ∧ ∀ k p, L[k]? = some p →
    (p.1.size ≤ reachBytes ∧ (Lit.int .i64 p.2).wf = true) ∧ w.cell? ⟨b, off + k * 2, none⟩ = some (.string p.1) ∧ w.cell? ⟨b, off + k * 2 + 1, none⟩ = some (.int .i64 p.2))
theorem rows_of {w : World} {A : Option Addr} {n : Nat} (h : RowAt w A n) : ∃ L, RwReads w A n L := by
  rcases Nat.eq_zero_or_pos n with h0 | h0
  · subst h0; exact ⟨[], rfl, fun h => absurd h (by omega)⟩
  · obtain ⟨b, off, hA, hb, hc⟩ := h h0
    obtain ⟨L, hl, hL⟩ := choose_list (α := Rw) (P := fun k p => (p.1.size ≤ reachBytes ∧ p.2.size ≤ reachBytes) ∧ w.cell? ⟨b, off + k * 2, none⟩ = some (.string p.1) ∧ w.cell? ⟨b, off + k * 2 + 1, none⟩ = some (.string p.2)) n (fun k hk => by
      obtain ⟨x0, x1, w0, w1, h0, h1⟩ := hc k hk
      exact ⟨(x0, x1), ⟨w0, w1⟩, h0, h1⟩)
    exact ⟨L, hl, fun _ => ⟨b, off, hA, hb, hL⟩⟩
theorem ents_of {w : World} {A : Option Addr} {n : Nat} (h : EntryAt w A n) : ∃ L, EtReads w A n L := by
  rcases Nat.eq_zero_or_pos n with h0 | h0
  · subst h0; exact ⟨[], rfl, fun h => absurd h (by omega)⟩
  · obtain ⟨b, off, hA, hb, hc⟩ := h h0
    obtain ⟨L, hl, hL⟩ := choose_list (α := Et) (P := fun k p => (p.1.size ≤ reachBytes ∧ (Lit.int .i64 p.2).wf = true) ∧ w.cell? ⟨b, off + k * 2, none⟩ = some (.string p.1) ∧ w.cell? ⟨b, off + k * 2 + 1, none⟩ = some (.int .i64 p.2)) n (fun k hk => by
      obtain ⟨x0, x1, w0, w1, h0, h1⟩ := hc k hk
      exact ⟨(x0, x1), ⟨w0, w1⟩, h0, h1⟩)
    exact ⟨L, hl, fun _ => ⟨b, off, hA, hb, hL⟩⟩
theorem RwReads.reads {w : World} {A : Option Addr} {n : Nat} {L : List Rw} (h : RwReads w A n L) : Reads w 2 A n (rwFlat L) := by
  refine ⟨by rw [rwFlat_len, h.1], fun hn => ?_⟩
  obtain ⟨b, off, hA, hb, hc⟩ := h.2 hn
  refine ⟨⟨b, off, none⟩, hA, fun j u hu => ?_⟩
  obtain ⟨k, p, hp, hh⟩ := flat2_inv (fun p : Rw => Value.string p.1) (fun p => .string p.2) L j u hu
  obtain ⟨_, c0, c1⟩ := hc k p hp
  rw [add_lit]
  rcases hh with ⟨rfl, rfl⟩ | ⟨rfl, rfl⟩
  · exact c0
  · exact c1
theorem EtReads.reads {w : World} {A : Option Addr} {n : Nat} {L : List Et} (h : EtReads w A n L) : Reads w 2 A n (etFlat L) := by
  refine ⟨by rw [etFlat_len, h.1], fun hn => ?_⟩
  obtain ⟨b, off, hA, hb, hc⟩ := h.2 hn
  refine ⟨⟨b, off, none⟩, hA, fun j u hu => ?_⟩
  obtain ⟨k, p, hp, hh⟩ := flat2_inv (fun p : Et => Value.string p.1) (fun p => .int .i64 p.2) L j u hu
  obtain ⟨_, c0, c1⟩ := hc k p hp
  rw [add_lit]
  rcases hh with ⟨rfl, rfl⟩ | ⟨rfl, rfl⟩
  · exact c0
  · exact c1
theorem RwReads.fr {w w' : World} {A : Option Addr} {n : Nat} {L : List Rw} (h : RwReads w A n L) (hf : Fr none_ w w') : RwReads w' A n L :=
  ⟨h.1, fun hn => by
    obtain ⟨b, off, hA, hb, hc⟩ := h.2 hn
    exact ⟨b, off, hA, by have := hf.size; omega, fun k p hp => by
      obtain ⟨s, c0, c1⟩ := hc k p hp
      exact ⟨s, cellFr c0 hf, cellFr c1 hf⟩⟩⟩
theorem EtReads.fr {w w' : World} {A : Option Addr} {n : Nat} {L : List Et} (h : EtReads w A n L) (hf : Fr none_ w w') : EtReads w' A n L :=
  ⟨h.1, fun hn => by
    obtain ⟨b, off, hA, hb, hc⟩ := h.2 hn
    exact ⟨b, off, hA, by have := hf.size; omega, fun k p hp => by
      obtain ⟨s, c0, c1⟩ := hc k p hp
      exact ⟨s, cellFr c0 hf, cellFr c1 hf⟩⟩⟩
theorem ents_conf {H : Type} {enc : TypeId × Value → H} {w : World} {v : Value} (h : Conf enc Try.prog w (.slice 39) v) : ∃ A n c L, v = .slice A n c ∧ n ≤ c ∧ c ≤ maxLen ∧ (A = none → n = 0 ∧ c = 0) ∧ EtReads w A n L := by
  obtain ⟨fuel, d, ps, ht, hlt, hwt⟩ := h
  obtain ⟨A, n, c, rfl, h1, h2, h3, h4, h5⟩ := open_list 6 Try.underlying39 ht hlt hwt (by rw [leaves_Entry]; rfl) (by rw [leaves_Entry, cells_Entry]; rfl)
  obtain ⟨L, hL⟩ := ents_of (Entry_at h5)
  exact ⟨A, n, c, L, rfl, h1, h2, h4, hL⟩

theorem row_info : (Try.prog.info? 62).map (fun i => (i.zero, i.size, i.bytes)) = some (some (.agg #[.string nilS, .string nilS]), 2, 32) := by kernel_rfl
theorem entry_info : (Try.prog.info? 64).map (fun i => (i.zero, i.size, i.bytes)) = some (some (.agg #[.string nilS, .int .i64 0]), 2, 24) := by kernel_rfl

/-- A record whose slices are rows of the call's own. -/
structure RecOwn (w : World) (base : Nat) (R : Rc) (vr ve : Value) : Prop where
  r : w.ownsRow base 62 2 vr R.rows.length (rwFlat R.rows)
  e : w.ownsRow base 64 2 ve R.ents.length (etFlat R.ents)
theorem RecOwn.keep {w w' : World} {base : Nat} {R : Rc} {vr ve : Value} (h : RecOwn w base R vr ve) (hf : Fr none_ w w') : RecOwn w' base R vr ve := ⟨own_none h.r hf, own_none h.e hf⟩
theorem RecOwn.base {w : World} {b b' : Nat} {R : Rc} {vr ve : Value} (h : RecOwn w b R vr ve) (hb : b' ≤ b) : RecOwn w b' R vr ve := ⟨own_base h.r hb, own_base h.e hb⟩
theorem RecOwn.fr {w w' : World} {S : Nat → Prop} {base : Nat} {R : Rc} {vr ve : Value} (h : RecOwn w base R vr ve) (hf : Fr S w w') (hr : ∀ k, vr.ownBlock = some k → ¬ S k) (he : ∀ k, ve.ownBlock = some k → ¬ S k) : RecOwn w' base R vr ve := ⟨own_fr h.r hf hr, own_fr h.e hf he⟩
/-- .. kept where a block of another type was turned. -/
theorem RecOwn.only {w w' : World} {base g : Nat} {R : Rc} {vr ve : Value} {t : TypeId} {cs : Array Value} (h : RecOwn w base R vr ve) (hf : Fr (only g) w w') (hg : Blk w g t cs) (h1 : 62 ≠ t) (h2 : 64 ≠ t) : RecOwn w' base R vr ve :=
  h.fr hf (fun k hk e => own_blk_ne h.r hg h1 (by rw [hk, show k = g from e])) (fun k hk e => own_blk_ne h.e hg h2 (by rw [hk, show k = g from e]))
theorem RecOwn.zero (w : World) (base : Nat) : RecOwn w base Rc.zero (.slice none 0 0) (.slice none 0 0) := ⟨World.ownsRow_nil _ _ _ _, World.ownsRow_nil _ _ _ _⟩
theorem box15 {w1 : World} {b : Nat} {t : TypeId} {c0 c1 c2 c3 c4 c5 c6 c7 c8 c9 c10 c11 c12 c13 c14 : Value} (h : Blk w1 b t #[c0, c1, c2, c3, c4, c5, c6, c7, c8, c9, c10, c11, c12, c13, c14]) (x0 x1 x2 x3 x4 x5 x6 x7 x8 x9 x10 x11 x12 x13 x14 : Value) :
    Blk (((((((((((((((w1.setCell ⟨b, 0, none⟩ x0).setCell ⟨b, 1, none⟩ x1).setCell ⟨b, 2, none⟩ x2).setCell ⟨b, 3, none⟩ x3).setCell ⟨b, 4, none⟩ x4).setCell ⟨b, 5, none⟩ x5).setCell ⟨b, 6, none⟩ x6).setCell ⟨b, 7, none⟩ x7).setCell ⟨b, 8, none⟩ x8).setCell ⟨b, 9, none⟩ x9).setCell ⟨b, 10, none⟩ x10).setCell ⟨b, 11, none⟩ x11).setCell ⟨b, 12, none⟩ x12).setCell ⟨b, 13, none⟩ x13).setCell ⟨b, 14, none⟩ x14) b t #[x0, x1, x2, x3, x4, x5, x6, x7, x8, x9, x10, x11, x12, x13, x14] ∧ Fr (only b) w1 (((((((((((((((w1.setCell ⟨b, 0, none⟩ x0).setCell ⟨b, 1, none⟩ x1).setCell ⟨b, 2, none⟩ x2).setCell ⟨b, 3, none⟩ x3).setCell ⟨b, 4, none⟩ x4).setCell ⟨b, 5, none⟩ x5).setCell ⟨b, 6, none⟩ x6).setCell ⟨b, 7, none⟩ x7).setCell ⟨b, 8, none⟩ x8).setCell ⟨b, 9, none⟩ x9).setCell ⟨b, 10, none⟩ x10).setCell ⟨b, 11, none⟩ x11).setCell ⟨b, 12, none⟩ x12).setCell ⟨b, 13, none⟩ x13).setCell ⟨b, 14, none⟩ x14) := by
  refine ⟨?_, ((((((((((((((((Fr.refl (only b) w1).setCell (p := ⟨b, 0, none⟩) (.inl (Eq.refl _)) x0).setCell (p := ⟨b, 1, none⟩) (.inl (Eq.refl _)) x1).setCell (p := ⟨b, 2, none⟩) (.inl (Eq.refl _)) x2).setCell (p := ⟨b, 3, none⟩) (.inl (Eq.refl _)) x3).setCell (p := ⟨b, 4, none⟩) (.inl (Eq.refl _)) x4).setCell (p := ⟨b, 5, none⟩) (.inl (Eq.refl _)) x5).setCell (p := ⟨b, 6, none⟩) (.inl (Eq.refl _)) x6).setCell (p := ⟨b, 7, none⟩) (.inl (Eq.refl _)) x7).setCell (p := ⟨b, 8, none⟩) (.inl (Eq.refl _)) x8).setCell (p := ⟨b, 9, none⟩) (.inl (Eq.refl _)) x9).setCell (p := ⟨b, 10, none⟩) (.inl (Eq.refl _)) x10).setCell (p := ⟨b, 11, none⟩) (.inl (Eq.refl _)) x11).setCell (p := ⟨b, 12, none⟩) (.inl (Eq.refl _)) x12).setCell (p := ⟨b, 13, none⟩) (.inl (Eq.refl _)) x13).setCell (p := ⟨b, 14, none⟩) (.inl (Eq.refl _)) x14)⟩
  have e := (((((((((((((((h.set_ 0 x0).set_ 1 x1).set_ 2 x2).set_ 3 x3).set_ 4 x4).set_ 5 x5).set_ 6 x6).set_ 7 x7).set_ 8 x8).set_ 9 x9).set_ 10 x10).set_ 11 x11).set_ 12 x12).set_ 13 x13).set_ 14 x14)
  simp only [List.setIfInBounds_toArray, List.set_cons_zero, List.set_cons_succ] at e
  exact e
end Go.Proofs.Ytpjbncbmdfmlpaa
namespace Go.Proofs.Ytpjbncbmdfmlpaa
open Go.RowKit
set_option maxRecDepth 100000
set_option linter.unusedVariables false

/-- What a record's two slices hold. -/
structure RecReads (w : World) (R : Rc) (A B : Option Addr) : Prop where
  r : Reads w 2 A R.rows.length (rwFlat R.rows)
  e : Reads w 2 B R.ents.length (etFlat R.ents)
theorem RecReads.keep {w w' : World} {R : Rc} {A B : Option Addr} (h : RecReads w R A B) (hf : Fr none_ w w') : RecReads w' R A B := ⟨h.r.none_fr hf, h.e.none_fr hf⟩
theorem RecOwn.reads {w : World} {base : Nat} {R : Rc} {A B : Option Addr} {c d : Nat} (h : RecOwn w base R (.slice A R.rows.length c) (.slice B R.ents.length d)) : RecReads w R A B := ⟨Reads.of_own h.r, Reads.of_own h.e⟩
theorem RecOwn.shape {w : World} {base : Nat} {R : Rc} {vr ve : Value} (h : RecOwn w base R vr ve) : ∃ A c B d, vr = .slice A R.rows.length c ∧ ve = .slice B R.ents.length d := by
  obtain ⟨A, c, e1⟩ := h.r.shape
  obtain ⟨B, d, e2⟩ := h.e.shape
  exact ⟨A, c, B, d, e1, e2⟩

/-- Behind the first append, and behind the second one. -/
structure CloneA (w w3 : World) (R : Rc) (vr ve v1 : Value) (A B : Option Addr) : Prop where
  f3 : Fr none_ w w3
  o1 : w3.ownsRow w.heap.size 62 2 v1 R.rows.length (rwFlat R.rows)
  k0 : Blk w3 w.heap.size 58 (recA R vr ve)
  k1 : Blk w3 (w.heap.size + 1) 58 (recA Rc.zero (.slice none 0 0) (.slice none 0 0))
  rd : RecReads w3 R A B
theorem clone_packA {w w3 : World} {R : Rc} {vr ve : Value} {A B A1 : Option Addr} {c1 : Nat} (h : RecReads w R A B) (hown : w3.ownsRow w.heap.size 62 2 (.slice A1 (0 + R.rows.length) c1) (0 + R.rows.length) ([] ++ rwFlat R.rows))
    (hgr : (((w.alloc (recB R vr ve)).alloc (recB Rc.zero (.slice none 0 0) (.slice none 0 0))).alloc (.cells #[] 62)).grownBy w3 (Value.slice (some ⟨w.heap.size + 1 + 1, 0, none⟩) 0 0).ownBlock) : CloneA w w3 R vr ve (.slice A1 R.rows.length c1) A B := by
  simp only [Nat.zero_add, List.nil_append] at hown
  have F3 : Fr none_ ((w.alloc (recB R vr ve)).alloc (recB Rc.zero (.slice none 0 0) (.slice none 0 0))) w3 := ((Fr.refl none_ _).alloc (.cells #[] 62)).grown hgr (fun k hk => .inr (by
    have : w.heap.size + 1 + 1 = k := by simpa [Value.ownBlock] using hk
    simp only [World.size_alloc]
    omega))
  have k1 := (Blk.new (w.alloc (recB R vr ve)) 58 (recA Rc.zero (.slice none 0 0) (.slice none 0 0))).fr F3 id
  rw [World.size_alloc] at k1
  have f := (((Fr.refl none_ w).alloc (recB R vr ve)).alloc (recB Rc.zero (.slice none 0 0) (.slice none 0 0))).then_none F3
  exact ⟨f, hown, ((Blk.new w _ _).alloc _).fr F3 id, k1, h.keep f⟩
structure CloneB (w w5 : World) (R : Rc) (ve v1 v2 : Value) : Prop where
  f5 : Fr none_ w w5
  o1 : w5.ownsRow w.heap.size 62 2 v1 R.rows.length (rwFlat R.rows)
  o2 : w5.ownsRow w.heap.size 64 2 v2 R.ents.length (etFlat R.ents)
  k0 : Blk w5 w.heap.size 58 (recA R v1 ve)
  k1 : Blk w5 (w.heap.size + 1) 58 (recA Rc.zero (.slice none 0 0) (.slice none 0 0))
theorem clone_packB {w w3 w5 : World} {R : Rc} {vr ve v1 : Value} {A B A2 : Option Addr} {c2 : Nat} (h : CloneA w w3 R vr ve v1 A B) (hown : w5.ownsRow w.heap.size 64 2 (.slice A2 (0 + R.ents.length) c2) (0 + R.ents.length) ([] ++ etFlat R.ents))
    (hgr : ((w3.setCell ⟨w.heap.size, 5, none⟩ v1).alloc (.cells #[] 64)).grownBy w5 (Value.slice (some ⟨w3.heap.size, 0, none⟩) 0 0).ownBlock) : CloneB w w5 R ve v1 (.slice A2 R.ents.length c2) := by
  simp only [Nat.zero_add, List.nil_append] at hown
  have F1 := Fr.only1 w3 ⟨w.heap.size, 5, none⟩ v1
  have hs : (w3.setCell ⟨w.heap.size, 5, none⟩ v1).heap.size = w3.heap.size := by simp
  have F5 : Fr none_ (w3.setCell ⟨w.heap.size, 5, none⟩ v1) w5 := ((Fr.refl none_ _).alloc (.cells #[] 64)).grown hgr (fun k hk => .inr (by
    have : w3.heap.size = k := by simpa [Value.ownBlock] using hk
    rw [hs]
    omega))
  exact ⟨(h.f3.then_only F1 (.inr (Nat.le_refl _))).then_none F5, own_none (own_fr h.o1 F1 (fun k hk e => own_blk_ne h.o1 h.k0 (by decide) (by rw [hk, show k = w.heap.size from e]))) F5, hown, (h.k0.set_ 5 v1).fr F5 id, (h.k1.fr F1 (only_ne (by simp))).fr F5 id⟩
theorem Reads.old {w : World} {size n : Nat} {A : Option Addr} {xs : List Value} (h : Reads w size A n xs) (hs : 0 < size) (hn : 0 < n) : ∀ ad, A = some ad → ad.block < w.heap.size := by
  intro ad e
  obtain ⟨ad', e', hc⟩ := h.2 hn
  rw [e] at e'
  cases e'
  have hl : 0 < xs.length := by rw [h.1]; exact Nat.mul_pos hn hs
  have := World.block_lt_of_cell? w _ (hc 0 xs[0] (List.getElem?_eq_getElem hl))
  rwa [block_of_add] at this

theorem CloneA.rd5 {w w3 : World} {R : Rc} {vr ve v1 : Value} {A B : Option Addr} (h : CloneA w w3 R vr ve v1 A B) (h0 : RecReads w R A B) : Reads ((w3.setCell ⟨w.heap.size, 5, none⟩ v1).alloc (.cells #[] 64)) 2 B R.ents.length (etFlat R.ents) := by
  rcases Nat.eq_zero_or_pos R.ents.length with hz | hz
  · exact ⟨by rw [etFlat_len], fun hn => by omega⟩
  · exact (h.rd.e.fr (Fr.only1 w3 ⟨w.heap.size, 5, none⟩ v1) (fun ad e => only_ne (by have := h0.e.old (by omega) hz ad e; show ad.block ≠ w.heap.size; omega))).alloc _
def ClonePost (R : Rc) (w : World) (e : Ending) (w' : World) : Prop :=
  ∃ A c B d, e = .returned (recV R (.slice A R.rows.length c) (.slice B R.ents.length d)) ∧ RecOwn w' w.heap.size R (.slice A R.rows.length c) (.slice B R.ents.length d) ∧ Fr none_ w w'
set_option maxHeartbeats 2000000 in
theorem clone_ok (R : Rc) (A : Option Addr) (c : Nat) (B : Option Addr) (d : Nat) (w : World) (h : RecReads w R A B) (hr : R.rows.length ≤ 1000) (he : R.ents.length ≤ 1000) :
    Calls Try.prog 23 #[recV R (.slice A R.rows.length c) (.slice B R.ents.length d)] w (ClonePost R w) := by
  obtain ⟨i0, hi0, hz0, hs0, hb0⟩ := info_parts row_info
  obtain ⟨j0, hj0, hy0, ht0, hc0⟩ := info_parts entry_info
  have Hi := hid_ (And.intro hi0 (And.intro hz0 (And.intro hs0 hb0)))
  have Hj := hid_ (And.intro hj0 (And.intro hy0 (And.intro ht0 hc0)))
  have H := hid_ h
  clear hi0 hz0 hs0 hb0 hj0 hy0 ht0 hc0 h
  go_enter Try.func23, Try.ntmps23
  go_wp2_with (first
    | (at_builtin; refine wpList_append_any _ rfl (.tmp 3) (.tmp 5) 36 rfl w.heap.size 62 i0 _ 2 32 Try.underlying36 Hi.out.1 Hi.out.2.1 Hi.out.2.2.1 Hi.out.2.2.2 rfl (by omega) (.slice (some ⟨w.heap.size + 1 + 1, 0, none⟩) 0 0) 0 [] rfl (own_empty_at _ _ _ _ _ (by simp; omega) (by simp)) A R.rows.length c (rwFlat R.rows) rfl (((H.out.r.alloc _).alloc _).alloc _) (rwFlat_one _) (by simp only [maxLen]; omega) (by omega) (by simp; omega) ?_; intro A1 c1 w3 hown3 hgr3; have hp := clone_packA (vr := .slice A R.rows.length c) (ve := .slice B R.ents.length d) H.out hown3 hgr3; have HP := hid_ hp; have e6 : w3.cell? ⟨w.heap.size, 6, none⟩ = some (.slice B R.ents.length d) := hp.k0.cell' rfl; have e5 : w3.cell? ⟨w.heap.size, 5, none⟩ = some (.slice A R.rows.length c) := hp.k0.cell' rfl; have f5 := hp.k0.frozen 5; have l3 := hp.k0.lt; clear hown3 hgr3 hp)
    | (at_builtin; refine wpList_append_any _ rfl (.tmp 8) (.tmp 10) 39 rfl w.heap.size 64 j0 _ 2 24 Try.underlying39 Hj.out.1 Hj.out.2.1 Hj.out.2.2.1 Hj.out.2.2.2 rfl (by omega) (.slice (some ⟨w3.heap.size, 0, none⟩) 0 0) 0 [] rfl (own_empty_at _ _ _ _ _ (by simp; omega) (by simp)) B R.ents.length d (etFlat R.ents) rfl (HP.out.rd5 H.out) (etFlat_one _) (by simp only [maxLen]; omega) (by omega) (by simp; omega) ?_; intro A2 c2 w5 hown5 hgr5; have hp := clone_packB HP.out hown5 hgr5; have HQ := hid_ hp; have r0 : w5.cell? ⟨w.heap.size, 0, none⟩ = some (.int .i64 R.kind) := hp.k0.cell' rfl; have r1 : w5.cell? ⟨w.heap.size, 1, none⟩ = some (.string R.low) := hp.k0.cell' rfl; have r2 : w5.cell? ⟨w.heap.size, 2, none⟩ = some (.string R.high) := hp.k0.cell' rfl; have r3 : w5.cell? ⟨w.heap.size, 3, none⟩ = some (.bool R.unb) := hp.k0.cell' rfl; have r4 : w5.cell? ⟨w.heap.size, 4, none⟩ = some (.int .i64 R.right) := hp.k0.cell' rfl; have r5 : w5.cell? ⟨w.heap.size, 5, none⟩ = some (.slice A1 R.rows.length c1) := hp.k0.cell' rfl; have r6 : w5.cell? ⟨w.heap.size, 6, none⟩ = some (.slice B R.ents.length d) := hp.k0.cell' rfl; have r7 : w5.cell? ⟨w.heap.size, 7, none⟩ = some (.string R.key) := hp.k0.cell' rfl; have r8 : w5.cell? ⟨w.heap.size, 8, none⟩ = some (.string R.val) := hp.k0.cell' rfl; have r9 : w5.cell? ⟨w.heap.size, 9, none⟩ = some (.int .i64 R.page) := hp.k0.cell' rfl; have r10 : w5.cell? ⟨w.heap.size, 10, none⟩ = some (.int .i64 R.hpage) := hp.k0.cell' rfl; have r11 : w5.cell? ⟨w.heap.size, 11, none⟩ = some (.int .i64 R.hleft) := hp.k0.cell' rfl; have r12 : w5.cell? ⟨w.heap.size, 12, none⟩ = some (.string R.hkey) := hp.k0.cell' rfl; have r13 : w5.cell? ⟨w.heap.size, 13, none⟩ = some (.int .i64 R.nslot) := hp.k0.cell' rfl; have r14 : w5.cell? ⟨w.heap.size, 14, none⟩ = some (.int .i64 R.ngen) := hp.k0.cell' rfl; have fr6 := hp.k0.frozen 6; have s0 : w5.cell? ⟨w.heap.size + 1, 0, none⟩ = some (.int .i64 0) := hp.k1.cell' rfl; have s1 : w5.cell? ⟨w.heap.size + 1, 1, none⟩ = some (.string nilS) := hp.k1.cell' rfl; have s2 : w5.cell? ⟨w.heap.size + 1, 2, none⟩ = some (.string nilS) := hp.k1.cell' rfl; have s3 : w5.cell? ⟨w.heap.size + 1, 3, none⟩ = some (.bool false) := hp.k1.cell' rfl; have s4 : w5.cell? ⟨w.heap.size + 1, 4, none⟩ = some (.int .i64 0) := hp.k1.cell' rfl; have s5 : w5.cell? ⟨w.heap.size + 1, 5, none⟩ = some (.slice none 0 0) := hp.k1.cell' rfl; have s6 : w5.cell? ⟨w.heap.size + 1, 6, none⟩ = some (.slice none 0 0) := hp.k1.cell' rfl; have s7 : w5.cell? ⟨w.heap.size + 1, 7, none⟩ = some (.string nilS) := hp.k1.cell' rfl; have s8 : w5.cell? ⟨w.heap.size + 1, 8, none⟩ = some (.string nilS) := hp.k1.cell' rfl; have s9 : w5.cell? ⟨w.heap.size + 1, 9, none⟩ = some (.int .i64 0) := hp.k1.cell' rfl; have s10 : w5.cell? ⟨w.heap.size + 1, 10, none⟩ = some (.int .i64 0) := hp.k1.cell' rfl; have s11 : w5.cell? ⟨w.heap.size + 1, 11, none⟩ = some (.int .i64 0) := hp.k1.cell' rfl; have s12 : w5.cell? ⟨w.heap.size + 1, 12, none⟩ = some (.string nilS) := hp.k1.cell' rfl; have s13 : w5.cell? ⟨w.heap.size + 1, 13, none⟩ = some (.int .i64 0) := hp.k1.cell' rfl; have s14 : w5.cell? ⟨w.heap.size + 1, 14, none⟩ = some (.int .i64 0) := hp.k1.cell' rfl; have z0 := hp.k1.frozen 0; have z1 := hp.k1.frozen 1; have z2 := hp.k1.frozen 2; have z3 := hp.k1.frozen 3; have z4 := hp.k1.frozen 4; have z5 := hp.k1.frozen 5; have z6 := hp.k1.frozen 6; have z7 := hp.k1.frozen 7; have z8 := hp.k1.frozen 8; have z9 := hp.k1.frozen 9; have z10 := hp.k1.frozen 10; have z11 := hp.k1.frozen 11; have z12 := hp.k1.frozen 12; have z13 := hp.k1.frozen 13; have z14 := hp.k1.frozen 14; clear hown5 hgr5 hp))
  clear r0 s0 z0 r1 s1 z1 r2 s2 z2 r3 s3 z3 r4 s4 z4 r5 s5 z5 r6 s6 z6 r7 s7 z7 r8 s8 z8 r9 s9 z9 r10 s10 z10 r11 s11 z11 r12 s12 z12 r13 s13 z13 r14 s14 z14 fr6 e5 e6 f5
  have F6 := Fr.only1 w5 ⟨w.heap.size, 6, none⟩ (.slice A2 R.ents.length c2)
  have K1 := HQ.out.k1.fr F6 (only_ne (by simp))
  obtain ⟨qb, qf⟩ := box15 K1 (.int .i64 R.kind) (.string R.low) (.string R.high) (.bool R.unb) (.int .i64 R.right) (.slice A1 R.rows.length c1) (.slice A2 R.ents.length c2) (.string R.key) (.string R.val) (.int .i64 R.page) (.int .i64 R.hpage) (.int .i64 R.hleft) (.string R.hkey) (.int .i64 R.nslot) (.int .i64 R.ngen)
  have q0 := qb.cell' (i := 0) rfl
  have q1 := qb.cell' (i := 1) rfl
  have q2 := qb.cell' (i := 2) rfl
  have q3 := qb.cell' (i := 3) rfl
  have q4 := qb.cell' (i := 4) rfl
  have q5 := qb.cell' (i := 5) rfl
  have q6 := qb.cell' (i := 6) rfl
  have q7 := qb.cell' (i := 7) rfl
  have q8 := qb.cell' (i := 8) rfl
  have q9 := qb.cell' (i := 9) rfl
  have q10 := qb.cell' (i := 10) rfl
  have q11 := qb.cell' (i := 11) rfl
  have q12 := qb.cell' (i := 12) rfl
  have q13 := qb.cell' (i := 13) rfl
  have q14 := qb.cell' (i := 14) rfl
  have O1 := own_fr (own_fr HQ.out.o1 F6 (fun k hk e => own_blk_ne HQ.out.o1 HQ.out.k0 (by decide) (by rw [hk, show k = w.heap.size from e]))) qf (fun k hk e => own_blk_ne HQ.out.o1 HQ.out.k1 (by decide) (by rw [hk, show k = w.heap.size + 1 from e]))
  have O2 := own_fr (own_fr HQ.out.o2 F6 (fun k hk e => own_blk_ne HQ.out.o2 HQ.out.k0 (by decide) (by rw [hk, show k = w.heap.size from e]))) qf (fun k hk e => own_blk_ne HQ.out.o2 HQ.out.k1 (by decide) (by rw [hk, show k = w.heap.size + 1 from e]))
  have G := (HQ.out.f5.then_only F6 (.inr (Nat.le_refl _))).then_only qf (.inr (by omega))
  clear K1 F6 qb qf
  refine bodyPost_ret (v := recV R (.slice A1 R.rows.length c1) (.slice A2 R.ents.length c2)) ?_ rfl ⟨A1, c1, A2, c2, rfl, ⟨O1, O2⟩, G⟩
  simp [results, Try.results23, go_sem, q0, q1, q2, q3, q4, q5, q6, q7, q8, q9, q10, q11, q12, q13, q14]
end Go.Proofs.Ytpjbncbmdfmlpaa
namespace Go.Proofs.Ytpjbncbmdfmlpaa
open Go.RowKit
set_option maxRecDepth 100000
set_option linter.unusedVariables false

/-- A slice that holds something lies at an address without a spot. -/
theorem reads_lit {w : World} {size n : Nat} {A : Option Addr} {xs : List Value} (h : Reads w size A n xs) (hs : 0 < size) (hn : 0 < n) : ∃ b off, A = some ⟨b, off, none⟩ ∧ b < w.heap.size ∧ ∀ j u, xs[j]? = some u → w.cell? ⟨b, off + j, none⟩ = some u := by
  obtain ⟨ad, e, hc⟩ := h.2 hn
  have hl : 0 < xs.length := by rw [h.1]; exact Nat.mul_pos hn hs
  have h0 := hc 0 xs[0] (List.getElem?_eq_getElem hl)
  have e0 : ad.add 0 = ad := by simp [Addr.add]
  rw [e0] at h0
  have hspot : ad.spot = none := by
    unfold World.cell? at h0
    split at h0
    · split at h0
      · cases h0
      · rename_i hs; simpa using hs
    · cases h0
  obtain ⟨b, off, sp⟩ := ad
  simp only at hspot
  subst hspot
  exact ⟨b, off, e, World.block_lt_of_cell? w _ h0, fun j u hu => by rw [← add_lit]; exact hc j u hu⟩
theorem rw_at {w : World} {A : Option Addr} {L : List Rw} (h : Reads w 2 A L.length (rwFlat L)) {k : Nat} {p : Rw} (hp : L[k]? = some p) : ∃ b off, A = some ⟨b, off, none⟩ ∧ b < w.heap.size ∧ w.cell? ⟨b, off + k * 2, none⟩ = some (.string p.1) ∧ w.cell? ⟨b, off + k * 2 + 1, none⟩ = some (.string p.2) := by
  obtain ⟨b, off, e, hb, hc⟩ := reads_lit h (by omega) (by have := (List.getElem?_eq_some_iff.1 hp).1; omega)
  obtain ⟨d0, d1⟩ := rwFlat_get L k p hp
  exact ⟨b, off, e, hb, hc _ _ d0, hc _ _ d1⟩
theorem et_at {w : World} {A : Option Addr} {L : List Et} (h : Reads w 2 A L.length (etFlat L)) {k : Nat} {p : Et} (hp : L[k]? = some p) : ∃ b off, A = some ⟨b, off, none⟩ ∧ b < w.heap.size ∧ w.cell? ⟨b, off + k * 2, none⟩ = some (.string p.1) ∧ w.cell? ⟨b, off + k * 2 + 1, none⟩ = some (.int .i64 p.2) := by
  obtain ⟨b, off, e, hb, hc⟩ := reads_lit h (by omega) (by have := (List.getElem?_eq_some_iff.1 hp).1; omega)
  obtain ⟨d0, d1⟩ := etFlat_get L k p hp
  exact ⟨b, off, e, hb, hc _ _ d0, hc _ _ d1⟩

end Go.Proofs.Ytpjbncbmdfmlpaa
namespace Go.Proofs.Ytpjbncbmdfmlpaa
open Go

/-- A world in which all that was there is as it was. -/
structure Wx (w : World) where
  v : World
  h : Fr none_ w v
instance Wx.some_ (w : World) : Nonempty (Wx w) := ⟨⟨w, Fr.refl _ _⟩⟩
def Wx.to {w : World} (x : Wx w) : World := x.v
theorem Wx.fr {w : World} (x : Wx w) : Fr none_ w x.to := x.h
theorem Wx.cell {w : World} (x : Wx w) {b o : Nat} {v : Value} (h : w.cell? ⟨b, o, none⟩ = some v) : x.to.cell? ⟨b, o, none⟩ = some v :=
  (World.cell?_of_block (x.h.block b (World.block_lt_of_cell? w _ h) id)).trans h
section
variable {P : Program} {w : World}
theorem wp_region_quiet_x {id : Nat} {Q : Exit → Act → World → Prop} {a : Act} {l : List Oper} (hm : P.follows .mixedOrders = true) (hB : Region.lexB .any l.toArray = true)
    (h : wpQuiet P l.toArray (fun w' => ∃ x : Wx w, w' = x.to) (fun a' => ∀ w', (∃ x : Wx w, w' = x.to) → Q .normal a' w') l a) : (Code.region id l.toArray true).wp P Q a w :=
  wp_region_quiet (C := fun w' => ∃ x : Wx w, w' = x.to) hm hB ⟨⟨_, (Fr.refl none_ w).drew⟩, rfl⟩ (by simpa using h)
theorem Calls.quiet_x {f : FuncId} {args : Array Value} {x : Wx w} {v : Value}
    (h : Calls P f args x.to fun e w' => e = .returned v ∧ Fr none_ x.to w') : Calls P f args x.to fun e w'' => e = .returned v ∧ ∃ y : Wx w, w'' = y.to :=
  h.mono fun _ w' ⟨he, hf⟩ => ⟨he, ⟨w', x.h.then_none hf⟩, rfl⟩
end
end Go.Proofs.Ytpjbncbmdfmlpaa
namespace Go.Proofs.Ytpjbncbmdfmlpaa
open Go.RowKit Go.BigFrame
set_option maxRecDepth 100000
set_option linter.unusedVariables false

structure Vw where
  low : ByteArray
  high : ByteArray
  unb : Bool
  right : Int
  ents : List Et
  held : Bool
  hp : Int
  hl : Int
  hk : ByteArray
def Vw.zero : Vw := ⟨nilS, nilS, false, 0, [], false, 0, 0, nilS⟩
abbrev vwA (V : Vw) (ve : Value) : Array Value := #[.string V.low, .string V.high, .bool V.unb, .int .i64 V.right, ve, .bool V.held, .int .i64 V.hp, .int .i64 V.hl, .string V.hk]
abbrev vwV (V : Vw) (ve : Value) : Value := .agg (vwA V ve)
def SzOk (s : ByteArray) : Prop := s.size ≤ 9000000000000000000
theorem SzOk.le {s : ByteArray} (h : SzOk s) : s.size ≤ 9000000000000000000 := h
theorem SzOk.nil : SzOk nilS := by unfold SzOk; decide
def EtsOk (L : List Et) : Prop := L.length ≤ 1000 ∧ ∀ p ∈ L, SzOk p.1
structure Vw.Ok (V : Vw) : Prop where
  low : SzOk V.low
  high : SzOk V.high
  hk : SzOk V.hk
  ents : EtsOk V.ents
/-- A view's entries lie where its slice says. -/
structure VwIn (w : World) (V : Vw) (A : Option Addr) (c : Nat) : Prop where
  rd : Reads w 2 A V.ents.length (etFlat V.ents)
  cap : V.ents.length ≤ c
  capm : c ≤ maxLen
  ok : V.Ok
theorem VwIn.keep {w w' : World} {V : Vw} {A : Option Addr} {c : Nat} (h : VwIn w V A c) (hf : Fr none_ w w') : VwIn w' V A c := ⟨h.rd.none_fr hf, h.cap, h.capm, h.ok⟩

/-- How many entries stand ahead of a key. -/
def plN : List Et → ByteArray → Nat
  | [], _ => 0
  | p :: t, key => if ltS p.1 key = true then plN t key + 1 else 0
theorem plN_le : ∀ (L : List Et) (key : ByteArray), plN L key ≤ L.length
  | [], _ => Nat.le_refl _
  | p :: t, key => by
    have := plN_le t key
    rw [plN]
    split <;> simp <;> omega
theorem plN_in : ∀ {L : List Et} {key : ByteArray} {i : Nat} {p : Et}, i < plN L key → L[i]? = some p → ltS p.1 key = true
  | [], _, i, p, h, _ => by simp [plN] at h
  | q :: t, key, i, p, h, hp => by
    rw [plN] at h
    split at h
    · cases i with
      | zero =>
        obtain rfl : q = p := by simpa using hp
        assumption
      | succ i => exact plN_in (L := t) (i := i) (by omega) (by simpa using hp)
    · omega
theorem plN_at : ∀ {L : List Et} {key : ByteArray} {p : Et}, L[plN L key]? = some p → ltS p.1 key = false
  | [], _, p, h => by simp at h
  | q :: t, key, p, h => by
    rw [plN] at h
    split at h
    · exact plN_at (L := t) (by simpa using h)
    · obtain rfl : q = p := by simpa using h
      rename_i h1
      simpa using h1
def atB (L : List Et) (key : ByteArray) : Bool :=
  match L[plN L key]? with
  | some p => sEq p.1 key
  | none => false
theorem atB_some {L : List Et} {key : ByteArray} {p : Et} (h : L[plN L key]? = some p) : atB L key = sEq p.1 key := by simp [atB, h]
theorem atB_none {L : List Et} {key : ByteArray} (h : plN L key = L.length) : atB L key = false := by simp [atB, h]

set_option maxHeartbeats 4000000 in
theorem place_ok (V : Vw) (A : Option Addr) (c : Nat) (key : ByteArray) (w : World) (h : VwIn w V A c) (hk : SzOk key) :
    Calls Try.prog 70 #[vwV V (.slice A V.ents.length c), .string key] w fun e w' => e = .returned (.tuple #[.int .i64 (plN V.ents key : Nat), .bool (atB V.ents key)]) ∧ Fr none_ w w' := by
  obtain ⟨w0, hw0⟩ : ∃ w0, w0 = w.alloc (.cells (vwA V (.slice A V.ents.length c)) 43) := ⟨_, rfl⟩
  have f0 : Fr none_ w w0 := by rw [hw0]; exact (Fr.refl none_ w).alloc _
  have F0 := hid_ f0
  have H0 := hid_ (h.keep f0)
  have B0 : Hid (Blk w0 w.heap.size 43 (vwA V (.slice A V.ents.length c))) := hid_ (by rw [hw0]; exact Blk.new w _ _)
  have hle := plN_le V.ents key
  have h1000 := h.ok.ents.1
  have HSZ := hid_ (And.intro h.ok.ents.2 hk)
  clear h f0 hk
  go_enter Try.func70, Try.ntmps70
  go_wp2_with fail
  change Code.wp _ _ _ _ (w.alloc (.cells (vwA V (.slice A V.ents.length c)) 43))
  rw [← hw0]
  clear hw0
  go_loopw [6] (fun i wr => ∃ k : Nat, k ≤ plN V.ents key ∧ i = .int .i64 k ∧ Fr none_ w0 wr) (fun i _ => plN V.ents key - (intOf i).toNat)
  case atStart => exact ⟨0, Nat.zero_le _, rfl, Fr.refl _ _⟩
  case round =>
    obtain ⟨k, hk, rfl, hF⟩ := hrel
    have B := hid_ (B0.out.fr hF id)
    have H := hid_ (H0.out.keep hF)
    have F := hid_ hF
    clear hF
    have v4 : wr.cell? ⟨w.heap.size, 4, none⟩ = some (.slice A V.ents.length c) := B.out.cell' rfl
    have hi0 : (0 : Int) ≤ (k : Int) := Int.natCast_nonneg _
    by_cases hlt : k < plN V.ents key
    · have hkl : k < V.ents.length := by omega
      have hi1 : (k : Int) < (V.ents.length : Int) := by omega
      have hd1 : decide ((k : Int) < (V.ents.length : Int)) = true := by simp; omega
      obtain ⟨p, hp⟩ : ∃ p, V.ents[k]? = some p := ⟨_, List.getElem?_eq_getElem hkl⟩
      obtain ⟨b, off, rfl, hb, c0, c1⟩ := et_at H.out.rd hp
      have hcmp : decide (cmpI p.1 key < 0) = true := by rw [cmp_neg]; exact plN_in hlt hp
      have hsz := HSZ.out.1 p (List.mem_of_getElem? hp)
      have HCMP := hid_ hcmp
      clear hp hcmp c1
      go_wp2_with fail
      refine (compare_ok p.1 key _ hsz.le HSZ.out.2.le).mono ?_
      rintro e w1 ⟨rfl, q, rfl⟩
      have hcmp := HCMP.out
      have FQ := hid_ (F.out.drewN q)
      clear v4 c0
      go_wp2_with fail
      go_roundw
      case rel => exact ⟨k + 1, by omega, by go_num, FQ.out⟩
      case measure => simp [intOf]; omega
    · obtain rfl : k = plN V.ents key := by omega
      by_cases hl : plN V.ents key < V.ents.length
      · obtain ⟨p, hp⟩ : ∃ p, V.ents[plN V.ents key]? = some p := ⟨_, List.getElem?_eq_getElem hl⟩
        obtain ⟨b, off, rfl, hb, c0, c1⟩ := et_at H.out.rd hp
        have hcmp : decide (cmpI p.1 key < 0) = false := by rw [cmp_neg]; exact plN_at hp
        have hsz := HSZ.out.1 p (List.mem_of_getElem? hp)
        have hat := atB_some hp
        obtain ⟨n, hn⟩ : ∃ n, n = plN V.ents key := ⟨_, rfl⟩
        have hi1 : (n : Int) < (V.ents.length : Int) := by omega
        have hd1 : decide ((n : Int) < (V.ents.length : Int)) = true := by simp; omega
        have hd2 : decide (n < V.ents.length) = true := by simp; omega
        rw [← hn] at c0 c1 hi0
        rw [← hn]
        have HCMP := hid_ hcmp
        have HAT := hid_ hat
        have HN := hid_ hn
        clear hp hcmp c1 hl hlt hat hn hk hle
        go_wp2_with fail
        refine (compare_ok p.1 key _ hsz.le HSZ.out.2.le).mono ?_
        rintro e w1 ⟨rfl, q, rfl⟩
        have hcmp := HCMP.out
        have FQ := hid_ (F.out.drewN q)
        go_wp2_with fail
        go_quiet (fail)
        go_wp2_with fail
        go_ret2
        exact ⟨by rw [HAT.out, ← HN.out]; rfl, F0.out.then_none (by repeat (first | exact FQ.out | apply Fr.drewN | apply Fr.drew))⟩
      · have he : plN V.ents key = V.ents.length := by omega
        have hat := atB_none he
        have HAT := hid_ hat
        have HE := hid_ he
        have hd1 : decide ((V.ents.length : Int) < (V.ents.length : Int)) = false := by simp
        rw [he]
        clear he hat hl hlt hk hle
        go_wp2_with fail
        go_quiet (fail)
        go_wp2_with fail
        go_ret2
        exact ⟨by rw [HAT.out, HE.out]; rfl, F0.out.then_none (by repeat (first | exact F.out | apply Fr.drewN | apply Fr.drew))⟩

theorem vin_ok (V : Vw) (ve : Value) (key : ByteArray) (w : World) (h1 : SzOk V.low) (h2 : SzOk V.high) (h3 : SzOk key) :
    Calls Try.prog 71 #[vwV V ve, .string key] w fun e w' => e = .returned (.bool (inS V.low V.high V.unb key)) ∧ Fr none_ w w' := by
  have F0 := hid_ ((Fr.refl none_ w).alloc (.cells (vwA V ve) 43))
  have H := hid_ (And.intro h1 (And.intro h2 h3))
  clear h1 h2 h3
  go_enter Try.func71, Try.ntmps71
  go_wp2_with fail
  refine (in_ok V.low V.high V.unb key _ H.out.1.le H.out.2.1.le H.out.2.2.le).mono ?_
  rintro e w1 ⟨rfl, q, rfl⟩
  go_wp2
  go_ret
  exact ⟨rfl, F0.out.drewN q⟩
/-- What sound says of a view. -/
structure Sound (V : Vw) : Prop where
  head : ∃ p, V.ents[0]? = some p ∧ p.1 = V.low
  high : V.unb = true → V.high = nilS
  inn : ∀ p ∈ V.ents, inS V.low V.high V.unb p.1 = true
  ris : ∀ (i : Nat) (p q : Et), V.ents[i]? = some p → V.ents[i + 1]? = some q → ltS p.1 q.1 = true
def SoundTo (V : Vw) (k : Nat) : Prop := (∀ (j : Nat) (p : Et), j < k → V.ents[j]? = some p → inS V.low V.high V.unb p.1 = true) ∧ ∀ (j : Nat) (p q : Et), j + 1 < k → V.ents[j]? = some p → V.ents[j + 1]? = some q → ltS p.1 q.1 = true
def SoundPost (V : Vw) (w : World) (e : Ending) (w' : World) : Prop := ∃ b : Bool, e = .returned (.bool b) ∧ (b = true ↔ Sound V) ∧ Fr none_ w w'
set_option maxHeartbeats 4000000 in
theorem sound_ok (V : Vw) (A : Option Addr) (c : Nat) (w : World) (h : VwIn w V A c) :
    Calls Try.prog 89 #[vwV V (.slice A V.ents.length c)] w (SoundPost V w) := by
  obtain ⟨w0, hw0⟩ : ∃ w0, w0 = w.alloc (.cells (vwA V (.slice A V.ents.length c)) 43) := ⟨_, rfl⟩
  have f0 : Fr none_ w w0 := by rw [hw0]; exact (Fr.refl none_ w).alloc _
  have F0 := hid_ f0
  have H0 := hid_ (h.keep f0)
  have B0 : Hid (Blk w0 w.heap.size 43 (vwA V (.slice A V.ents.length c))) := hid_ (by rw [hw0]; exact Blk.new w _ _)
  have h1000 := h.ok.ents.1
  have OK := hid_ h.ok
  have v0 : w0.cell? ⟨w.heap.size, 0, none⟩ = some (.string V.low) := B0.out.cell' rfl
  have v1 : w0.cell? ⟨w.heap.size, 1, none⟩ = some (.string V.high) := B0.out.cell' rfl
  have v2 : w0.cell? ⟨w.heap.size, 2, none⟩ = some (.bool V.unb) := B0.out.cell' rfl
  have v4 : w0.cell? ⟨w.heap.size, 4, none⟩ = some (.slice A V.ents.length c) := B0.out.cell' rfl
  clear h f0
  by_cases hl0 : V.ents.length = 0
  · have hne : ¬ Sound V := fun h => by
      obtain ⟨p, hp, _⟩ := h.head
      rw [List.getElem?_eq_none (by omega)] at hp
      cases hp
    have HNE := hid_ hne
    rw [hl0] at v4 hw0
    rw [hl0]
    clear hl0 hne
    go_enter Try.func89, Try.ntmps89
    go_wp2_with fail
    change Code.wp _ _ _ _ (w.alloc (.cells (vwA V (.slice A 0 c)) 43))
    rw [← hw0]
    clear hw0
    go_quiet (fail)
    go_wp2_with fail
    go_ret
    exact ⟨false, rfl, ⟨(fun h => by cases h), fun h => absurd h HNE.out⟩, F0.out.drewN _⟩
  obtain ⟨p0, hp0⟩ : ∃ p, V.ents[0]? = some p := ⟨_, List.getElem?_eq_getElem (by omega)⟩
  obtain ⟨b, off, rfl, hb, c0, c1⟩ := et_at H0.out.rd hp0
  have hd0 : decide ((0 : Int) < (V.ents.length : Int)) = true := by simp; omega
  have hd0' : ((V.ents.length : Int) == 0) = false := beq_eq_false_iff_ne.2 (by omega)
  have hi1 : (0 : Int) < (V.ents.length : Int) := by omega
  simp only [Nat.zero_mul, Nat.add_zero] at c0
  have HP0 := hid_ hp0
  have HL0 := hid_ hl0
  clear hp0 c1 hl0
  by_cases hlow : p0.1 = V.low
  case neg =>
    have hne : ¬ Sound V := fun h => by
      obtain ⟨p, hp, e⟩ := h.head
      rw [HP0.out] at hp
      cases hp
      exact hlow e
    have HNE := hid_ hne
    have hs1 := sEq_ne hlow
    unfold sEq at hs1
    have hs2 : (p0.1.toList != V.low.toList) = true := by simpa [bne] using hs1
    clear hne hlow
    go_enter Try.func89, Try.ntmps89
    go_wp2_with fail
    change Code.wp _ _ _ _ (w.alloc (.cells (vwA V (.slice (some ⟨b, off, none⟩) V.ents.length c)) 43))
    rw [← hw0]
    clear hw0
    go_quiet (fail)
    go_wp2_with fail
    go_ret
    exact ⟨false, rfl, ⟨(fun h => by cases h), fun h => absurd h HNE.out⟩, F0.out.drewN _⟩
  have hs1 : (p0.1.toList == V.low.toList) = true := sEq_iff.2 hlow
  have hs2 : (p0.1.toList != V.low.toList) = false := by simpa [bne] using hs1
  have HLOW := hid_ hlow
  clear hlow
  by_cases hhi : V.unb = true ∧ V.high ≠ nilS
  · have hne : ¬ Sound V := fun h => hhi.2 (h.high hhi.1)
    have HNE := hid_ hne
    rw [hhi.1] at v2
    have hh : V.high.toList.isEmpty = false := by
      cases e : V.high.toList.isEmpty with
      | false => rfl
      | true => exact absurd (ba_eq (by rw [← ba_toList, List.isEmpty_iff.1 e])) hhi.2
    have hh2 : (!V.high.toList.isEmpty) = true := by rw [hh]; rfl
    clear hne hhi
    go_enter Try.func89, Try.ntmps89
    go_wp2_with fail
    change Code.wp _ _ _ _ (w.alloc (.cells (vwA V (.slice (some ⟨b, off, none⟩) V.ents.length c)) 43))
    rw [← hw0]
    clear hw0
    go_quiet (fail)
    go_wp2_with fail
    go_ret
    exact ⟨false, rfl, ⟨(fun h => by cases h), fun h => absurd h HNE.out⟩, F0.out.drewN _⟩
  have HHI : Hid (V.unb = true → V.high = nilS) := hid_ (fun hu => Classical.byContradiction fun hn => hhi ⟨hu, hn⟩)
  clear hhi
  go_enter Try.func89, Try.ntmps89
  go_upto_region 1 with fail
  change Code.wp _ _ _ _ (w.alloc (.cells (vwA V (.slice (some ⟨b, off, none⟩) V.ents.length c)) 43))
  rw [← hw0]
  clear hw0
  go_cut [27] (fun v wq => v = .bool false ∧ Fr none_ w0 wq)
  case first =>
    cases hu : V.unb with
    | false =>
      rw [hu] at v2
      clear hu
      go_quiet (fail)
      go_wp2
      go_meet
      case rel => exact ⟨rfl, (Fr.refl none_ w0).drewN _⟩
    | true =>
      have hh := HHI.out hu
      rw [hu] at v2
      rw [hh] at v1
      clear hu hh
      go_quiet (fail)
      go_wp2
      go_meet
      case rel => exact ⟨rfl, (Fr.refl none_ w0).drewN _⟩
  case rest =>
  obtain ⟨rfl, hf⟩ := hcut
  have B1 := hid_ (B0.out.fr hf id)
  have F1 := hid_ (F0.out.then_none hf)
  have H1 := hid_ (H0.out.keep hf)
  clear hf v0 v1 v2 v4 c0 hs1 hs2 hd0 hd0'
  have v4 : wc.cell? ⟨w.heap.size, 4, none⟩ = some (.slice (some ⟨b, off, none⟩) V.ents.length c) := B1.out.cell' rfl
  go_wp2_with fail
  clear v4 F0 H0 B0
  go_loopw [31] (fun i wr => ∃ k : Nat, k ≤ V.ents.length ∧ i = .int .i64 k ∧ SoundTo V k ∧ Fr none_ wc wr) (fun i _ => V.ents.length - (intOf i).toNat)
  case atStart => exact ⟨0, Nat.zero_le _, rfl, ⟨fun j p hj => by omega, fun j p q hj => by omega⟩, Fr.refl _ _⟩
  case round =>
    obtain ⟨k, hk, rfl, hst, hF⟩ := hrel
    have ST := hid_ hst
    have B := hid_ (B1.out.fr hF id)
    have H := hid_ (H1.out.keep hF)
    have F := hid_ (F1.out.then_none hF)
    have FC := hid_ hF
    clear hst hF
    have hi0 : (0 : Int) ≤ (k : Int) := Int.natCast_nonneg _
    by_cases hlt : k < V.ents.length
    · have hi1' : (k : Int) < (V.ents.length : Int) := by omega
      obtain ⟨p, hp⟩ : ∃ p, V.ents[k]? = some p := ⟨_, List.getElem?_eq_getElem hlt⟩
      obtain ⟨b2, off2, hA, hb2, c0, c1⟩ := et_at H.out.rd hp
      obtain ⟨rfl, rfl⟩ : b = b2 ∧ off = off2 := by injection hA with hA; injection hA with e1 e2; exact ⟨e1, e2⟩
      have HP := hid_ hp
      clear hp hA
      go_upto_region 6 with fail
      obtain ⟨X, hX⟩ : ∃ X, X = wr.heap.size := ⟨_, rfl⟩
      obtain ⟨w2, hw2⟩ : ∃ w2, w2 = wr.alloc (.cells #[.string p.1, .int .i64 p.2] 64) := ⟨_, rfl⟩
      have f2 : Fr none_ wr w2 := by rw [hw2]; exact (Fr.refl none_ wr).alloc _
      have BX : Hid (Blk w2 X 64 #[.string p.1, .int .i64 p.2]) := hid_ (by rw [hw2, hX]; exact Blk.new wr _ _)
      have B2 := hid_ (B.out.fr f2 id)
      have H2 := hid_ (H.out.keep f2)
      have F2 := hid_ (FC.out.then_none f2)
      rw [← hX]
      change Code.wp _ _ _ _ (wr.alloc (.cells #[.string p.1, .int .i64 p.2] 64))
      rw [← hw2]
      clear hw2 hX f2 c0 c1
      have hpk := OK.out.ents.2 p (List.mem_of_getElem? HP.out)
      have HPK := hid_ hpk
      clear hpk
      go_cut [57] (fun v wq => ∃ bb : Bool, v = .bool bb ∧ (bb = false ↔ (inS V.low V.high V.unb p.1 = true ∧ ∀ q, 0 < k → V.ents[k - 1]? = some q → ltS q.1 p.1 = true)) ∧ Fr none_ w2 wq)
      case first =>
        have v0 : w2.cell? ⟨w.heap.size, 0, none⟩ = some (.string V.low) := B2.out.cell' rfl
        have v1 : w2.cell? ⟨w.heap.size, 1, none⟩ = some (.string V.high) := B2.out.cell' rfl
        have v2 : w2.cell? ⟨w.heap.size, 2, none⟩ = some (.bool V.unb) := B2.out.cell' rfl
        have v3 : w2.cell? ⟨w.heap.size, 3, none⟩ = some (.int .i64 V.right) := B2.out.cell' rfl
        have v4 : w2.cell? ⟨w.heap.size, 4, none⟩ = some (.slice (some ⟨b, off, none⟩) V.ents.length c) := B2.out.cell' rfl
        have v5 : w2.cell? ⟨w.heap.size, 5, none⟩ = some (.bool V.held) := B2.out.cell' rfl
        have v6 : w2.cell? ⟨w.heap.size, 6, none⟩ = some (.int .i64 V.hp) := B2.out.cell' rfl
        have v7 : w2.cell? ⟨w.heap.size, 7, none⟩ = some (.int .i64 V.hl) := B2.out.cell' rfl
        have v8 : w2.cell? ⟨w.heap.size, 8, none⟩ = some (.string V.hk) := B2.out.cell' rfl
        have x0 : w2.cell? ⟨X, 0, none⟩ = some (.string p.1) := BX.out.cell' rfl
        have y0 : ∀ x : Wx w2, x.to.cell? ⟨w.heap.size, 0, none⟩ = some (.string V.low) := fun x => x.cell v0
        have y1 : ∀ x : Wx w2, x.to.cell? ⟨w.heap.size, 1, none⟩ = some (.string V.high) := fun x => x.cell v1
        have y2 : ∀ x : Wx w2, x.to.cell? ⟨w.heap.size, 2, none⟩ = some (.bool V.unb) := fun x => x.cell v2
        have y3 : ∀ x : Wx w2, x.to.cell? ⟨w.heap.size, 3, none⟩ = some (.int .i64 V.right) := fun x => x.cell v3
        have y4 : ∀ x : Wx w2, x.to.cell? ⟨w.heap.size, 4, none⟩ = some (.slice (some ⟨b, off, none⟩) V.ents.length c) := fun x => x.cell v4
        have y5 : ∀ x : Wx w2, x.to.cell? ⟨w.heap.size, 5, none⟩ = some (.bool V.held) := fun x => x.cell v5
        have y6 : ∀ x : Wx w2, x.to.cell? ⟨w.heap.size, 6, none⟩ = some (.int .i64 V.hp) := fun x => x.cell v6
        have y7 : ∀ x : Wx w2, x.to.cell? ⟨w.heap.size, 7, none⟩ = some (.int .i64 V.hl) := fun x => x.cell v7
        have y8 : ∀ x : Wx w2, x.to.cell? ⟨w.heap.size, 8, none⟩ = some (.string V.hk) := fun x => x.cell v8
        have z0 : ∀ x : Wx w2, x.to.cell? ⟨X, 0, none⟩ = some (.string p.1) := fun x => x.cell x0
        clear v0 v1 v2 v3 v4 v5 v6 v7 v8 x0
        cases hin : inS V.low V.high V.unb p.1 with
        | false =>
          have HC : Hid (∀ x : Wx w2, Calls Try.prog 71 #[vwV V (.slice (some ⟨b, off, none⟩) V.ents.length c), .string p.1] x.to fun e w' => e = .returned (.bool false) ∧ Fr none_ x.to w') := hid_ (fun x => by
            have h := vin_ok V (.slice (some ⟨b, off, none⟩) V.ents.length c) p.1 x.to OK.out.low OK.out.high HPK.out
            rwa [hin] at h)
          have HIN := hid_ hin
          clear hin
          refine wp_region_quiet_x (by kernel_rfl) (by kernel_rfl) ?_
          repeat (first | go_big_quiet_step ((go_at_call 71; exact Calls.quiet_x (HC.out _))) | quiet_step ((go_at_call 71; exact Calls.quiet_x (HC.out _))))
          refine wpQuiet_nil ?_
          intro _ hw'
          obtain ⟨xq, hw''⟩ := hw'
          subst hw''
          go_wp2
          go_meet
          case rel => exact ⟨true, rfl, ⟨(fun h => by cases h), fun h => by rw [HIN.out] at h; cases h.1⟩, xq.fr⟩
        | true =>
          have HC : Hid (∀ x : Wx w2, Calls Try.prog 71 #[vwV V (.slice (some ⟨b, off, none⟩) V.ents.length c), .string p.1] x.to fun e w' => e = .returned (.bool true) ∧ Fr none_ x.to w') := hid_ (fun x => by
            have h := vin_ok V (.slice (some ⟨b, off, none⟩) V.ents.length c) p.1 x.to OK.out.low OK.out.high HPK.out
            rwa [hin] at h)
          have HIN := hid_ hin
          clear hin
          by_cases hk0 : 0 < k
          · obtain ⟨q, hq⟩ : ∃ q, V.ents[k - 1]? = some q := ⟨_, List.getElem?_eq_getElem (by omega)⟩
            obtain ⟨b3, off3, hA, hb3, d0, d1⟩ := et_at H2.out.rd hq
            obtain ⟨rfl, rfl⟩ : b = b3 ∧ off = off3 := by injection hA with hA; injection hA with e1 e2; exact ⟨e1, e2⟩
            have e0 : ∀ x : Wx w2, x.to.cell? ⟨b, off + (k - 1) * 2, none⟩ = some (.string q.1) := fun x => x.cell d0
            have hqk := OK.out.ents.2 q (List.mem_of_getElem? hq)
            have HQK := hid_ hqk
            have HQ := hid_ hq
            have HQ' : Hid ((∀ q', 0 < k → V.ents[k - 1]? = some q' → ltS q'.1 p.1 = true) ↔ ltS q.1 p.1 = true) := hid_ ⟨fun h => h q hk0 hq, fun h q' _ hq' => by rw [hq] at hq'; cases hq'; exact h⟩
            have HC2 : Hid (∀ x : Wx w2, Calls Try.prog 72 #[.string q.1, .string p.1] x.to fun e w' => e = .returned (.int .i64 (cmpI q.1 p.1)) ∧ Fr none_ x.to w') := hid_ (fun x => (compare_ok q.1 p.1 x.to HQK.out.le HPK.out.le).mono (by rintro e w' ⟨rfl, n, rfl⟩; exact ⟨rfl, (Fr.refl none_ _).drewN n⟩))
            have hw1 : IntKind.i64.wrap ((k : Int) - 1) = ((k - 1 : Nat) : Int) := by rw [show (k : Int) - 1 = ((k - 1 : Nat) : Int) by omega]; exact IntWalk.i64_in _ (by omega)
            have hdk : decide (0 < k) = true := decide_eq_true hk0
            have hj0 : (0 : Int) ≤ ((k - 1 : Nat) : Int) := Int.natCast_nonneg _
            have hj1 : ((k - 1 : Nat) : Int) < (V.ents.length : Int) := by omega
            obtain ⟨j, hj⟩ : ∃ j, j = k - 1 := ⟨_, rfl⟩
            rw [← hj] at e0 hw1 hj0 hj1
            have HJ := hid_ hj
            have hge := cmp_ge q.1 p.1
            have HGE := hid_ hge
            clear hq hA d0 d1 hqk hj hge hk0
            refine wp_region_quiet_x (by kernel_rfl) (by kernel_rfl) ?_
            repeat (first | go_big_quiet_step ((first | (go_at_call 71; exact Calls.quiet_x (HC.out _)) | (go_at_call 72; exact Calls.quiet_x (HC2.out _)))) | quiet_step ((first | (go_at_call 71; exact Calls.quiet_x (HC.out _)) | (go_at_call 72; exact Calls.quiet_x (HC2.out _)))))
            refine wpQuiet_nil ?_
            intro _ hw'
            obtain ⟨xq, hw''⟩ := hw'
            subst hw''
            go_wp2
            go_meet
            case rel => exact ⟨_, rfl, by
              rw [HGE.out, HIN.out, HQ'.out]
              cases ltS q.1 p.1 <;> simp, xq.fr⟩
          · have hdk : decide (0 < k) = false := decide_eq_false hk0
            have hk0' : k = 0 := by omega
            have HK0 := hid_ hk0'
            clear hk0 hk0'
            refine wp_region_quiet_x (by kernel_rfl) (by kernel_rfl) ?_
            repeat (first | go_big_quiet_step ((go_at_call 71; exact Calls.quiet_x (HC.out _))) | quiet_step ((go_at_call 71; exact Calls.quiet_x (HC.out _))))
            refine wpQuiet_nil ?_
            intro _ hw'
            obtain ⟨xq, hw''⟩ := hw'
            subst hw''
            go_wp2
            go_meet
            case rel => exact ⟨false, rfl, ⟨fun _ => ⟨HIN.out, fun q h => by have := HK0.out; omega⟩, fun _ => rfl⟩, xq.fr⟩
      case rest =>
      obtain ⟨bb, rfl, hbb, hf⟩ := hcut
      have F3 := hid_ (F2.out.then_none hf)
      have HB := hid_ hbb
      clear hf hbb B2 H2 BX F2
      cases bb with
      | true =>
        have hns : ¬ Sound V := fun hS => by
          have h := HB.out.2 ⟨hS.inn p (List.mem_of_getElem? HP.out), fun q h0 hq => hS.ris (k - 1) q p hq (by rw [show k - 1 + 1 = k by omega]; exact HP.out)⟩
          cases h
        have HNS := hid_ hns
        clear hns
        go_wp2_with fail
        go_ret
        exact ⟨false, rfl, ⟨(fun h => by cases h), fun h => absurd h HNS.out⟩, F1.out.then_none F3.out⟩
      | false =>
        have hst : SoundTo V (k + 1) := by
          have h := HB.out.1 rfl
          refine ⟨fun j p' hj hp' => ?_, fun j p' q hj hp' hq => ?_⟩
          · rcases Nat.lt_succ_iff_lt_or_eq.1 hj with hj | rfl
            · exact ST.out.1 j p' hj hp'
            · rw [HP.out] at hp'; cases hp'; exact h.1
          · rcases Nat.lt_succ_iff_lt_or_eq.1 hj with hj | hj
            · exact ST.out.2 j p' q hj hp' hq
            · rw [hj, HP.out] at hq
              cases hq
              exact h.2 p' (by omega) (by rw [show k - 1 = j by omega]; exact hp')
        have HST := hid_ hst
        clear hst
        go_wp2_with fail
        go_roundw
        case rel => exact ⟨k + 1, by omega, by go_num, HST.out, F3.out⟩
        case measure => simp [intOf]; omega
    · obtain rfl : k = V.ents.length := by omega
      have hS : Sound V := ⟨⟨p0, HP0.out, HLOW.out⟩, HHI.out, fun p hp => by obtain ⟨j, hj, e⟩ := List.mem_iff_getElem.1 hp; exact ST.out.1 j p hj (by rw [List.getElem?_eq_getElem hj, e]), fun j p q hp hq => ST.out.2 j p q (List.getElem?_eq_some_iff.1 hq).1 hp hq⟩
      have HS := hid_ hS
      clear hS
      go_wp2_with fail
      go_ret
      exact ⟨true, rfl, ⟨fun _ => HS.out, fun _ => rfl⟩, F.out⟩
end Go.Proofs.Ytpjbncbmdfmlpaa
namespace Go.Proofs.Ytpjbncbmdfmlpaa
open Go

section
variable {P : Program} {md : Region.Mode} {ops : Array Oper} {Q : Exit → Act → World → Prop} {S : World → Prop}
def wpAnyT (P : Program) (md : Region.Mode) (ops : Array Oper) (Q : Exit → Act → World → Prop) (S : World → Prop) (m : Nat) : Nat → Array Bool → Act → World → Prop
  | 0, listed, a, w => Region.ready md ops listed = [] ∧ Q .normal a w
  | fuel + 1, listed, a, w =>
    (Region.ready md ops listed = [] → Q .normal a w) ∧
    ∀ i ∈ Region.ready md ops listed, wpOp P ops Q i (fun a' w' => (i = m ∨ S w') ∧ wpAnyT P md ops Q S m fuel (listed.setIfInBounds i true) a' w') a w
theorem wpAny_of_T {m : Nat} : ∀ (fuel : Nat) (listed : Array Bool) (a : Act) (w : World), wpAnyT P md ops Q S m fuel listed a w → wpAny P md ops Q fuel listed a w
  | 0, _, _, _, h => h
  | fuel + 1, _, _, _, h => ⟨h.1, fun i hi => wpOp_mono (fun a' w' h' => wpAny_of_T fuel _ a' w' h'.2) (h.2 i hi)⟩
/-- A read may be taken first: the last operation waits for it, so S holds behind whatever comes up ahead of it. -/
theorem wpAnyT_first {m i : Nat} {oi : Oper} {v : Value} (hi : ops[i]? = some oi) (hsel : ∀ (j : Nat) (o : Oper) cs b, ops[j]? = some o → o.op ≠ .select cs b)
    (hQ : ∀ c a w, Q (.panic c) (a.put oi.dst v) w → Q (.panic c) a w) (hm : ∃ om, ops[m]? = some om ∧ ∃ e ∈ om.after, Region.binds md e = true ∧ e.on = i) :
    ∀ (fuel : Nat) (listed : Array Bool) (a : Act) (w : World),
      (∀ j oj, ops[j]? = some oj → j ≠ i → listed.getD j true = false → (∀ e ∈ oj.after, Region.binds md e = true → e.on ≠ i) → oi.apart ops oj = true) →
      i ∈ Region.ready md ops listed → YieldsIf P ops S oi v a → S w →
      wpAnyT P md ops Q S m fuel (listed.setIfInBounds i true) (a.put oi.dst v) w → wpAnyT P md ops Q S m (fuel + 1) listed a w := by
  intro fuel
  induction fuel with
  | zero =>
    intro listed a w _ hr hy hS H
    refine ⟨fun h => (by rw [h] at hr; cases hr), fun j hj => ?_⟩
    by_cases hji : j = i
    · subst hji; exact hy.wpOp hi hS ⟨.inr hS, H⟩
    · have := ready_mono hj hji
      rw [H.1] at this
      cases this
  | succ fuel ih =>
    intro listed a w hfree hr hy hS H
    refine ⟨fun h => (by rw [h] at hr; cases hr), fun j hj => ?_⟩
    by_cases hji : j = i
    · subst hji; exact hy.wpOp hi hS ⟨.inr hS, H⟩
    · have h1 := H.2 j (ready_mono hj hji)
      obtain ⟨hjun, oj, hoj, hall⟩ := mem_ready.1 hj
      have hnot : ∀ e ∈ oj.after, Region.binds md e = true → e.on ≠ i := fun e he hb heq => by
        have h1 := hall e he hb
        have h0 := (mem_ready.1 hr).1
        rw [heq] at h1
        rcases Nat.lt_or_ge i listed.size with h' | h'
        · simp [h'] at h0 h1; rw [h0] at h1; cases h1
        · simp [Array.getElem?_eq_none h'] at h1
      have hjm : j ≠ m := by
        rintro rfl
        obtain ⟨om, hom, e, he, hb, heq⟩ := hm
        obtain rfl := Option.some.inj (hoj.symm.trans hom)
        exact hnot e he hb heq
      have h2 := wpOp_putIf hoj (hfree j oj hoj hji hjun hnot) (fun cs b => hsel i oi cs b hi) (fun cs b => hsel j oj cs b hoj) hQ hy h1
      have hfree' : ∀ k ok, ops[k]? = some ok → k ≠ i → (listed.setIfInBounds j true).getD k true = false →
          (∀ e ∈ ok.after, Region.binds md e = true → e.on ≠ i) → oi.apart ops ok = true := fun k ok hk hki hun hno => by
        refine hfree k ok hk hki ?_ hno
        by_cases hjk : j = k
        · subst hjk; exact hjun
        · rw [getD_set_ne true hjk] at hun; exact hun
      refine wpOp_mono (fun a' w' h3 => ?_) h2
      have hs : S w' := h3.2.1.resolve_left hjm
      refine ⟨.inr hs, ih (listed.setIfInBounds j true) a' w' hfree' (ready_mono hr (Ne.symm hji)) h3.1 hs ?_⟩
      rw [Array.setIfInBounds_comm _ _ hji]
      exact h3.2.2
/-- Take number i first (the side conditions as Bools). -/
theorem wpAnyT_take {m i : Nat} {oi : Oper} {v : Value} {fuel : Nat} {listed : Array Bool} {a : Act} {w : World} (hi : ops[i]? = some oi)
    (hs : Region.noSelect ops = true) (hf : Region.free md ops listed i = true) (hr : (Region.ready md ops listed).contains i = true)
    (hm : (ops[m]?.any fun om => om.after.any fun e => Region.binds md e && e.on == i) = true)
    (hQ : ∀ c a w, Q (.panic c) (a.put oi.dst v) w → Q (.panic c) a w) (hy : YieldsIf P ops S oi v a) (hS : S w)
    (h : wpAnyT P md ops Q S m fuel (listed.setIfInBounds i true) (a.put oi.dst v) w) : wpAnyT P md ops Q S m (fuel + 1) listed a w :=
  wpAnyT_first hi (Region.noSelect_spec hs) hQ (by
    cases ho : ops[m]? with
    | none => rw [ho] at hm; cases hm
    | some om =>
      rw [ho] at hm
      have hm' : (om.after.any fun e => Region.binds md e && e.on == i) = true := hm
      obtain ⟨e, he, hb⟩ := Array.any_eq_true'.1 hm'
      simp at hb
      exact ⟨om, rfl, e, he, hb.1, hb.2⟩) fuel listed a w (Region.free_spec hi hf) (by simpa using hr) hy hS h
/-- Whatever has come up, all that it waits for has come up. -/
def closedB (md : Region.Mode) (ops : Array Oper) (listed : Array Bool) : Bool :=
  (List.range ops.size).all fun k => !listed.getD k false || (match ops[k]? with | some o => o.after.all fun e => !Region.binds md e || listed.getD e.on false | none => true)
/-- Does m wait for i, by whatever way? -/
def waitsB (md : Region.Mode) (ops : Array Oper) : Nat → Nat → Nat → Bool
  | 0, _, _ => false
  | f + 1, m, i => match ops[m]? with | some o => o.after.any fun e => Region.binds md e && (e.on == i || waitsB md ops f e.on i) | none => false
def Closed (md : Region.Mode) (ops : Array Oper) (listed : Array Bool) : Prop := ∀ k o, ops[k]? = some o → listed.getD k false = true → ∀ e ∈ o.after, Region.binds md e = true → listed.getD e.on false = true
theorem closed_of {listed : Array Bool} (h : closedB md ops listed = true) : Closed md ops listed := by
  intro k o ho hl e he hb
  have hk : k < ops.size := (Array.getElem?_eq_some_iff.1 ho).1
  have := List.all_eq_true.1 h k (List.mem_range.2 hk)
  rw [ho, hl] at this
  simp only [Bool.not_true, Bool.false_or] at this
  have := Array.all_eq_true'.1 this e he
  simpa [hb] using this
theorem getD_set_true {listed : Array Bool} {j k : Nat} (h : listed.getD k false = true) : (listed.setIfInBounds j true).getD k false = true := by
  by_cases e : j = k
  · subst e
    rcases Nat.lt_or_ge j listed.size with h' | h'
    · simp [h']
    · simp [Array.getElem?_eq_none h'] at h
  · simp [e] at h ⊢
    exact h
theorem Closed.set {listed : Array Bool} (h : Closed md ops listed) {j : Nat} (hj : j ∈ Region.ready md ops listed) : Closed md ops (listed.setIfInBounds j true) := by
  obtain ⟨hjun, oj, hoj, hall⟩ := mem_ready.1 hj
  intro k o ho hl e he hb
  by_cases hkj : j = k
  · subst hkj
    obtain rfl := Option.some.inj (hoj.symm.trans ho)
    exact getD_set_true (hall e he hb)
  · refine getD_set_true (h k o ho ?_ e he hb)
    simpa [hkj] using hl
theorem Closed.waits {listed : Array Bool} (h : Closed md ops listed) : ∀ {f k i : Nat}, listed.getD k false = true → waitsB md ops f k i = true → listed.getD i false = true
  | 0, _, _, _, hw => by simp [waitsB] at hw
  | f + 1, k, i, hl, hw => by
    rw [waitsB] at hw
    split at hw
    · rename_i o ho
      obtain ⟨e, he, hb⟩ := Array.any_eq_true'.1 hw
      simp only [Bool.and_eq_true, Bool.or_eq_true, beq_iff_eq] at hb
      have h1 := h k o ho hl e he hb.1
      rcases hb.2 with rfl | h2
      · exact h1
      · exact h.waits h1 h2
    · cases hw
theorem ready_waits {listed : Array Bool} (h : Closed md ops listed) {f m i : Nat} (hm : m ∈ Region.ready md ops listed) (hw : waitsB md ops f m i = true) (hi : i ∈ Region.ready md ops listed) : False := by
  obtain ⟨hmun, om, hom, hall⟩ := mem_ready.1 hm
  have hi0 := (mem_ready.1 hi).1
  have h1 : listed.getD i false = true := by
    cases f with
    | zero => simp [waitsB] at hw
    | succ f =>
      rw [waitsB, hom] at hw
      obtain ⟨e, he, hb⟩ := Array.any_eq_true'.1 hw
      simp only [Bool.and_eq_true, Bool.or_eq_true, beq_iff_eq] at hb
      have h2 := hall e he hb.1
      rcases hb.2 with rfl | h3
      · exact h2
      · exact h.waits h2 h3
  rcases Nat.lt_or_ge i listed.size with h' | h'
  · simp [h'] at hi0 h1
    rw [hi0] at h1
    cases h1
  · simp [Array.getElem?_eq_none h'] at hi0
/-- As wpAnyT_first, where m waits for i by whatever way. -/
theorem wpAnyT_first2 {m i f : Nat} {oi : Oper} {v : Value} (hi : ops[i]? = some oi) (hsel : ∀ (j : Nat) (o : Oper) cs b, ops[j]? = some o → o.op ≠ .select cs b)
    (hQ : ∀ c a w, Q (.panic c) (a.put oi.dst v) w → Q (.panic c) a w) (hm : waitsB md ops f m i = true) :
    ∀ (fuel : Nat) (listed : Array Bool) (a : Act) (w : World), Closed md ops listed →
      (∀ j oj, ops[j]? = some oj → j ≠ i → listed.getD j true = false → (∀ e ∈ oj.after, Region.binds md e = true → e.on ≠ i) → oi.apart ops oj = true) →
      i ∈ Region.ready md ops listed → YieldsIf P ops S oi v a → S w →
      wpAnyT P md ops Q S m fuel (listed.setIfInBounds i true) (a.put oi.dst v) w → wpAnyT P md ops Q S m (fuel + 1) listed a w := by
  intro fuel
  induction fuel with
  | zero =>
    intro listed a w hc _ hr hy hS H
    refine ⟨fun h => (by rw [h] at hr; cases hr), fun j hj => ?_⟩
    by_cases hji : j = i
    · subst hji; exact hy.wpOp hi hS ⟨.inr hS, H⟩
    · have := ready_mono hj hji
      rw [H.1] at this
      cases this
  | succ fuel ih =>
    intro listed a w hc hfree hr hy hS H
    refine ⟨fun h => (by rw [h] at hr; cases hr), fun j hj => ?_⟩
    by_cases hji : j = i
    · subst hji; exact hy.wpOp hi hS ⟨.inr hS, H⟩
    · have h1 := H.2 j (ready_mono hj hji)
      obtain ⟨hjun, oj, hoj, hall⟩ := mem_ready.1 hj
      have hnot : ∀ e ∈ oj.after, Region.binds md e = true → e.on ≠ i := fun e he hb heq => by
        have h1 := hall e he hb
        have h0 := (mem_ready.1 hr).1
        rw [heq] at h1
        rcases Nat.lt_or_ge i listed.size with h' | h'
        · simp [h'] at h0 h1; rw [h0] at h1; cases h1
        · simp [Array.getElem?_eq_none h'] at h1
      have hjm : j ≠ m := by
        rintro rfl
        exact ready_waits hc hj hm hr
      have h2 := wpOp_putIf hoj (hfree j oj hoj hji hjun hnot) (fun cs b => hsel i oi cs b hi) (fun cs b => hsel j oj cs b hoj) hQ hy h1
      have hfree' : ∀ k ok, ops[k]? = some ok → k ≠ i → (listed.setIfInBounds j true).getD k true = false →
          (∀ e ∈ ok.after, Region.binds md e = true → e.on ≠ i) → oi.apart ops ok = true := fun k ok hk hki hun hno => by
        refine hfree k ok hk hki ?_ hno
        by_cases hjk : j = k
        · subst hjk; exact hjun
        · rw [getD_set_ne true hjk] at hun; exact hun
      refine wpOp_mono (fun a' w' h3 => ?_) h2
      have hs : S w' := h3.2.1.resolve_left hjm
      refine ⟨.inr hs, ih (listed.setIfInBounds j true) a' w' (hc.set hj) hfree' (ready_mono hr (Ne.symm hji)) h3.1 hs ?_⟩
      rw [Array.setIfInBounds_comm _ _ hji]
      exact h3.2.2
theorem wpAnyT_take2 {m i : Nat} {oi : Oper} {v : Value} {fuel : Nat} {listed : Array Bool} {a : Act} {w : World} (hi : ops[i]? = some oi)
    (hs : Region.noSelect ops = true) (hf : Region.free md ops listed i = true) (hr : (Region.ready md ops listed).contains i = true)
    (hm : (waitsB md ops ops.size m i && closedB md ops listed) = true)
    (hQ : ∀ c a w, Q (.panic c) (a.put oi.dst v) w → Q (.panic c) a w) (hy : YieldsIf P ops S oi v a) (hS : S w)
    (h : wpAnyT P md ops Q S m fuel (listed.setIfInBounds i true) (a.put oi.dst v) w) : wpAnyT P md ops Q S m (fuel + 1) listed a w := by
  rw [Bool.and_eq_true] at hm
  exact wpAnyT_first2 hi (Region.noSelect_spec hs) hQ hm.1 fuel listed a w (closed_of hm.2) (Region.free_spec hi hf) (by simpa using hr) hy hS h
theorem wpAnyT_all {m : Nat} {rs : List Nat} {fuel : Nat} {listed : Array Bool} {a : Act} {w : World} (hr : Region.ready md ops listed = rs) (hne : rs ≠ [])
    (h : ∀ i ∈ rs, wpOp P ops Q i (fun a' w' => (i = m ∨ S w') ∧ wpAnyT P md ops Q S m fuel (listed.setIfInBounds i true) a' w') a w) : wpAnyT P md ops Q S m (fuel + 1) listed a w :=
  ⟨fun h0 => absurd (hr ▸ h0) hne, hr ▸ h⟩
/-- The one operation that is ready. -/
theorem wpAnyT_one {m i : Nat} {oi : Oper} {fuel : Nat} {listed : Array Bool} {a : Act} {w : World} (hi : ops[i]? = some oi) (hg : oi.guard = none) (hr : Region.ready md ops listed = [i])
    (h : Oper.wp P oi a w (fun a' w' => (i = m ∨ S w') ∧ wpAnyT P md ops Q S m fuel (listed.setIfInBounds i true) a' w') Q) : wpAnyT P md ops Q S m (fuel + 1) listed a w := by
  refine wpAnyT_all hr (by simp) (fun j hj => ?_)
  obtain rfl : j = i := by simpa using hj
  unfold wpOp
  have hw : Region.wanted oi (yielded ops a.tmps) = true := by simp [Region.wanted, hg]
  simp only [hi, hw, if_true]
  exact .inl h
theorem wpAnyT_done {m : Nat} {listed : Array Bool} {a : Act} {w : World} (hr : Region.ready md ops listed = []) (h : Q .normal a w) : ∀ fuel, wpAnyT P md ops Q S m fuel listed a w
  | 0 => ⟨hr, h⟩
  | _ + 1 => ⟨fun _ => h, by rw [hr]; simp⟩
theorem wp_region_T {id m : Nat} {a : Act} {w : World} (hm : P.follows .mixedOrders = true)
    (h : wpAnyT P .any ops Q S m ops.size (Array.replicate ops.size false) a w.drew) : (Code.region id ops true).wp P Q a w :=
  wp_region_any hm (wpAny_of_T _ _ _ _ h)
end
end Go.Proofs.Ytpjbncbmdfmlpaa
namespace Go.Proofs.Ytpjbncbmdfmlpaa
open Go.RowKit Go.BigFrame
set_option maxRecDepth 100000
set_option linter.unusedVariables false

theorem box9 {w1 : World} {b : Nat} {t : TypeId} {c0 c1 c2 c3 c4 c5 c6 c7 c8 : Value} (h : Blk w1 b t #[c0, c1, c2, c3, c4, c5, c6, c7, c8]) (x0 x1 x2 x3 x4 x5 x6 x7 x8 : Value) :
    Blk (((((((((w1.setCell ⟨b, 0, none⟩ x0).setCell ⟨b, 1, none⟩ x1).setCell ⟨b, 2, none⟩ x2).setCell ⟨b, 3, none⟩ x3).setCell ⟨b, 4, none⟩ x4).setCell ⟨b, 5, none⟩ x5).setCell ⟨b, 6, none⟩ x6).setCell ⟨b, 7, none⟩ x7).setCell ⟨b, 8, none⟩ x8) b t #[x0, x1, x2, x3, x4, x5, x6, x7, x8] ∧ Fr (only b) w1 (((((((((w1.setCell ⟨b, 0, none⟩ x0).setCell ⟨b, 1, none⟩ x1).setCell ⟨b, 2, none⟩ x2).setCell ⟨b, 3, none⟩ x3).setCell ⟨b, 4, none⟩ x4).setCell ⟨b, 5, none⟩ x5).setCell ⟨b, 6, none⟩ x6).setCell ⟨b, 7, none⟩ x7).setCell ⟨b, 8, none⟩ x8) := by
  refine ⟨?_, (((((((((Fr.refl (only b) w1).setCell (p := ⟨b, 0, none⟩) (.inl (Eq.refl _)) x0).setCell (p := ⟨b, 1, none⟩) (.inl (Eq.refl _)) x1).setCell (p := ⟨b, 2, none⟩) (.inl (Eq.refl _)) x2).setCell (p := ⟨b, 3, none⟩) (.inl (Eq.refl _)) x3).setCell (p := ⟨b, 4, none⟩) (.inl (Eq.refl _)) x4).setCell (p := ⟨b, 5, none⟩) (.inl (Eq.refl _)) x5).setCell (p := ⟨b, 6, none⟩) (.inl (Eq.refl _)) x6).setCell (p := ⟨b, 7, none⟩) (.inl (Eq.refl _)) x7).setCell (p := ⟨b, 8, none⟩) (.inl (Eq.refl _)) x8⟩
  have e := (((((((((h.set_ 0 x0).set_ 1 x1).set_ 2 x2).set_ 3 x3).set_ 4 x4).set_ 5 x5).set_ 6 x6).set_ 7 x7).set_ 8 x8)
  simp only [List.setIfInBounds_toArray, List.set_cons_zero, List.set_cons_succ] at e
  exact e

abbrev Pt := Option Addr × Nat × List Et
abbrev ptV (x : Pt) : Value := .slice x.1 x.2.2.length x.2.1
def ptL (ps : List Pt) : List Et := (ps.map (·.2.2)).flatten
theorem etFlat_app (L M : List Et) : etFlat (L ++ M) = etFlat L ++ etFlat M := by simp [etFlat]
theorem etFlat_take : ∀ (L : List Et) (n : Nat), etFlat (L.take n) = (etFlat L).take (n * 2)
  | [], n => by simp [etFlat]
  | p :: t, 0 => by simp [etFlat]
  | p :: t, n + 1 => by
    have := etFlat_take t n
    rw [show (n + 1) * 2 = n * 2 + 1 + 1 by omega]
    show etCells p ++ etFlat (t.take n) = (etCells p ++ etFlat t).take (n * 2 + 1 + 1)
    rw [this]
    rfl
theorem etFlat_drop (L : List Et) (n : Nat) : etFlat (L.drop n) = (etFlat L).drop (n * 2) := by
  have h : etFlat L = etFlat (L.take n) ++ etFlat (L.drop n) := by rw [← etFlat_app, List.take_append_drop]
  rcases Nat.lt_or_ge L.length n with hl | hl
  · rw [List.drop_eq_nil_of_le (by omega), List.drop_eq_nil_of_le (by rw [etFlat_len]; omega)]
    rfl
  · rw [h, List.drop_left' (by rw [etFlat_len]; simp; omega)]
theorem ptL_take {ps : List Pt} {k : Nat} {x : Pt} (h : ps[k]? = some x) : ptL (ps.take (k + 1)) = ptL (ps.take k) ++ x.2.2 := by
  simp [ptL, List.take_add_one, h]
theorem ptL_le (ps : List Pt) : ∀ k, (ptL (ps.take k)).length ≤ (ptL ps).length := fun k => by
  have : ptL ps = ptL (ps.take k) ++ ptL (ps.drop k) := by
    unfold ptL
    rw [← List.flatten_append, ← List.map_append, List.take_append_drop]
  rw [this, List.length_append]
  omega
def JoinPost (w : World) (L : List Et) (e : Ending) (w' : World) : Prop :=
  ∃ A c, e = .returned (.slice A L.length c) ∧ w'.ownsRow w.heap.size 64 2 (.slice A L.length c) L.length (etFlat L) ∧ Fr none_ w w'
set_option maxHeartbeats 2000000 in
theorem joined_ok (b : Nat) (ps : List Pt) (w : World) (hb : ∀ (i : Nat) x, ps[i]? = some x → w.cell? ⟨b, i, none⟩ = some (ptV x)) (hr : ∀ x ∈ ps, Reads w 2 x.1 x.2.2.length (etFlat x.2.2)) (hl : (ptL ps).length ≤ 2000) (hn : ps.length ≤ 10) :
    Calls Try.prog 88 #[.slice (some ⟨b, 0, none⟩) ps.length ps.length] w (JoinPost w (ptL ps)) := by
  obtain ⟨i0, hi0, hz0, hs0, hb0⟩ := info_parts entry_info
  have Hi := hid_ (And.intro hi0 (And.intro hz0 (And.intro hs0 hb0)))
  have HB := hid_ hb
  have HR := hid_ hr
  clear hi0 hz0 hs0 hb0 hb hr
  go_enter Try.func88, Try.ntmps88
  go_wp2_with fail
  go_loopw [3, 8] (fun v i wr => ∃ k : Nat, k ≤ ps.length ∧ i = .int .i64 k ∧ wr.ownsRow w.heap.size 64 2 v (ptL (ps.take k)).length (etFlat (ptL (ps.take k))) ∧ Fr none_ w wr) (fun _ i _ => ps.length - (intOf i).toNat)
  case atStart => exact ⟨0, Nat.zero_le _, rfl, World.ownsRow_nil _ _ _ _, Fr.refl _ _⟩
  case round =>
    obtain ⟨k, hk, rfl, hown, hF⟩ := hrel
    obtain ⟨A, c, rfl⟩ := hown.shape
    have O := hid_ hown
    have F := hid_ hF
    clear hown hF
    have hi0 : (0 : Int) ≤ (k : Int) := Int.natCast_nonneg _
    by_cases hlt : k < ps.length
    · have hi1 : (k : Int) < (ps.length : Int) := by omega
      obtain ⟨x, hx⟩ : ∃ x, ps[k]? = some x := ⟨_, List.getElem?_eq_getElem hlt⟩
      obtain ⟨A2, c2, L2⟩ := x
      have hc : wr.cell? ⟨b, k, none⟩ = some (.slice A2 L2.length c2) := cellFr (HB.out k _ hx) F.out
      have R := hid_ ((HR.out _ (List.mem_of_getElem? hx)).none_fr F.out)
      have HT := hid_ (ptL_take hx)
      have hle : (ptL (ps.take k)).length + L2.length ≤ (ptL ps).length := by
        have := ptL_le ps (k + 1)
        rw [HT.out, List.length_append] at this
        exact this
      have hfs := F.out.size
      clear hx
      go_wp2_with (at_builtin; refine wpList_append_any _ rfl (.tmp 12) (.tmp 13) 39 rfl w.heap.size 64 i0 _ 2 24 Try.underlying39 Hi.out.1 Hi.out.2.1 Hi.out.2.2.1 Hi.out.2.2.2 rfl (by omega) (.slice A (ptL (ps.take k)).length c) (ptL (ps.take k)).length (etFlat (ptL (ps.take k))) rfl O.out A2 L2.length c2 (etFlat L2) rfl R.out (etFlat_one _) (by simp only [maxLen]; omega) (by omega) hfs ?_; intro A3 c3 w3 hown3 hgr3)
      have R3 : w3.ownsRow w.heap.size 64 2 (.slice A3 ((ptL (ps.take k)).length + L2.length) c3) (ptL (ps.take (k + 1))).length (etFlat (ptL (ps.take (k + 1)))) ∧ Fr none_ w w3 := by
        refine ⟨?_, F.out.grown hgr3 (fun b hb => .inr (O.out.lt b hb).1)⟩
        rw [HT.out, List.length_append, etFlat_app]
        exact hown3
      have HR3 := hid_ R3
      clear R3 hown3 hgr3
      go_wp2
      go_roundw
      case rel => exact ⟨k + 1, by omega, by go_num, HR3.out.1, HR3.out.2⟩
      case measure => simp [intOf]; omega
    · obtain rfl : k = ps.length := by omega
      have o := O.out
      have f := F.out
      rw [List.take_length] at o
      go_wp2
      go_ret
      rw [List.take_length]
      exact ⟨A, c, rfl, o, f⟩
end Go.Proofs.Ytpjbncbmdfmlpaa
namespace Go.Proofs.Ytpjbncbmdfmlpaa
open Go.RowKit Go.BigFrame
set_option maxRecDepth 100000
set_option linter.unusedVariables false

/-- How many rows stand ahead of a key. -/
def plR : List Rw → ByteArray → Nat
  | [], _ => 0
  | p :: t, key => if ltS p.1 key = true then plR t key + 1 else 0
theorem plR_le : ∀ (L : List Rw) (key : ByteArray), plR L key ≤ L.length
  | [], _ => Nat.le_refl _
  | p :: t, key => by
    have := plR_le t key
    rw [plR]
    split <;> simp <;> omega
theorem plR_in : ∀ {L : List Rw} {key : ByteArray} {i : Nat} {p : Rw}, i < plR L key → L[i]? = some p → ltS p.1 key = true
  | [], _, i, p, h, _ => by simp [plR] at h
  | q :: t, key, i, p, h, hp => by
    rw [plR] at h
    split at h
    · cases i with
      | zero =>
        obtain rfl : q = p := by simpa using hp
        assumption
      | succ i => exact plR_in (L := t) (i := i) (by omega) (by simpa using hp)
    · omega
theorem plR_at : ∀ {L : List Rw} {key : ByteArray} {p : Rw}, L[plR L key]? = some p → ltS p.1 key = false
  | [], _, p, h => by simp at h
  | q :: t, key, p, h => by
    rw [plR] at h
    split at h
    · exact plR_at (L := t) (by simpa using h)
    · obtain rfl : q = p := by simpa using h
      rename_i h1
      simpa using h1
def atR (L : List Rw) (key : ByteArray) : Bool :=
  match L[plR L key]? with
  | some p => sEq p.1 key
  | none => false
theorem atR_some {L : List Rw} {key : ByteArray} {p : Rw} (h : L[plR L key]? = some p) : atR L key = sEq p.1 key := by simp [atR, h]
theorem atR_none {L : List Rw} {key : ByteArray} (h : plR L key = L.length) : atR L key = false := by simp [atR, h]
theorem atR_lt {L : List Rw} {key : ByteArray} (h : atR L key = true) : plR L key < L.length := by
  have h1 := plR_le L key
  rcases Nat.lt_or_ge (plR L key) L.length with h2 | h2
  · exact h2
  · rw [atR_none (by omega)] at h; cases h
/-- May a row be? -/
def fitsR (p : Rw) : Bool := (decide (1 ≤ p.1.size) && decide (p.1.size ≤ 16)) && decide (p.2.size ≤ 16)
structure RightR (L : List Rw) : Prop where
  fit : ∀ p ∈ L, fitsR p = true
  ris : ∀ (i : Nat) (p q : Rw), L[i]? = some p → L[i + 1]? = some q → ltS p.1 q.1 = true
def RightTo (L : List Rw) (k : Nat) : Prop := (∀ (j : Nat) (p : Rw), j < k → L[j]? = some p → fitsR p = true) ∧ ∀ (j : Nat) (p q : Rw), j + 1 < k → L[j]? = some p → L[j + 1]? = some q → ltS p.1 q.1 = true
def RwsOk (L : List Rw) : Prop := L.length ≤ 300000 ∧ ∀ p ∈ L, SzOk p.1 ∧ SzOk p.2
def putR (L : List Rw) (r : Rw) : List Rw := L.take (plR L r.1) ++ [r] ++ L.drop (plR L r.1 + if atR L r.1 then 1 else 0)
def dropR (L : List Rw) (key : ByteArray) : List Rw := if atR L key then L.take (plR L key) ++ L.drop (plR L key + 1) else L
theorem putR_len (L : List Rw) (r : Rw) : (putR L r).length ≤ L.length + 1 := by
  have := plR_le L r.1
  simp only [putR, List.length_append, List.length_take, List.length_drop, List.length_cons, List.length_nil]
  omega
theorem dropR_len (L : List Rw) (key : ByteArray) : (dropR L key).length ≤ L.length := by
  unfold dropR
  split
  · simp only [List.length_append, List.length_take, List.length_drop]; omega
  · exact Nat.le_refl _
/-- The rows that lie in a span. -/
def inR (low high : ByteArray) (unb : Bool) (L : List Rw) : List Rw := L.filter fun p => inS low high unb p.1
theorem inR_all {low high : ByteArray} {unb : Bool} {L : List Rw} : (inR low high unb L).length = L.length ↔ ∀ p ∈ L, inS low high unb p.1 = true := by
  unfold inR
  rw [List.length_filter_eq_length_iff]
structure SoundR (low high : ByteArray) (unb : Bool) (L : List Rw) : Prop where
  hi : unb = true → high = nilS
  right : RightR L
  inn : ∀ p ∈ L, inS low high unb p.1 = true
abbrev PtR := Option Addr × Nat × List Rw
abbrev ptRV (x : PtR) : Value := .slice x.1 x.2.2.length x.2.1
def ptRL (ps : List PtR) : List Rw := (ps.map (·.2.2)).flatten
theorem rwFlat_app (L M : List Rw) : rwFlat (L ++ M) = rwFlat L ++ rwFlat M := by simp [rwFlat]
theorem rwFlat_take : ∀ (L : List Rw) (n : Nat), rwFlat (L.take n) = (rwFlat L).take (n * 2)
  | [], n => by simp [rwFlat]
  | p :: t, 0 => by simp [rwFlat]
  | p :: t, n + 1 => by
    have := rwFlat_take t n
    rw [show (n + 1) * 2 = n * 2 + 1 + 1 by omega]
    show rwCells p ++ rwFlat (t.take n) = (rwCells p ++ rwFlat t).take (n * 2 + 1 + 1)
    rw [this]
    rfl
theorem rwFlat_drop (L : List Rw) (n : Nat) : rwFlat (L.drop n) = (rwFlat L).drop (n * 2) := by
  have h : rwFlat L = rwFlat (L.take n) ++ rwFlat (L.drop n) := by rw [← rwFlat_app, List.take_append_drop]
  rcases Nat.lt_or_ge L.length n with hl | hl
  · rw [List.drop_eq_nil_of_le (by omega), List.drop_eq_nil_of_le (by rw [rwFlat_len]; omega)]
    rfl
  · rw [h, List.drop_left' (by rw [rwFlat_len]; simp; omega)]
theorem ptRL_take {ps : List PtR} {k : Nat} {x : PtR} (h : ps[k]? = some x) : ptRL (ps.take (k + 1)) = ptRL (ps.take k) ++ x.2.2 := by
  simp [ptRL, List.take_add_one, h]
theorem ptRL_le (ps : List PtR) : ∀ k, (ptRL (ps.take k)).length ≤ (ptRL ps).length := fun k => by
  have : ptRL ps = ptRL (ps.take k) ++ ptRL (ps.drop k) := by
    unfold ptRL
    rw [← List.flatten_append, ← List.map_append, List.take_append_drop]
  rw [this, List.length_append]
  omega
def JoinPostR (w : World) (L : List Rw) (e : Ending) (w' : World) : Prop :=
  ∃ A c, e = .returned (.slice A L.length c) ∧ w'.ownsRow w.heap.size 62 2 (.slice A L.length c) L.length (rwFlat L) ∧ Fr none_ w w'
set_option maxHeartbeats 2000000 in
theorem list_ok (b : Nat) (ps : List PtR) (w : World) (hb : ∀ (i : Nat) x, ps[i]? = some x → w.cell? ⟨b, i, none⟩ = some (ptRV x)) (hr : ∀ x ∈ ps, Reads w 2 x.1 x.2.2.length (rwFlat x.2.2)) (hl : (ptRL ps).length ≤ 900000) (hn : ps.length ≤ 10) :
    Calls Try.prog 105 #[.slice (some ⟨b, 0, none⟩) ps.length ps.length] w (JoinPostR w (ptRL ps)) := by
  obtain ⟨i0, hi0, hz0, hs0, hb0⟩ := info_parts row_info
  have Hi := hid_ (And.intro hi0 (And.intro hz0 (And.intro hs0 hb0)))
  have HB := hid_ hb
  have HR := hid_ hr
  clear hi0 hz0 hs0 hb0 hb hr
  go_enter Try.func105, Try.ntmps105
  go_wp2_with fail
  go_loopw [3, 8] (fun v i wr => ∃ k : Nat, k ≤ ps.length ∧ i = .int .i64 k ∧ wr.ownsRow w.heap.size 62 2 v (ptRL (ps.take k)).length (rwFlat (ptRL (ps.take k))) ∧ Fr none_ w wr) (fun _ i _ => ps.length - (intOf i).toNat)
  case atStart => exact ⟨0, Nat.zero_le _, rfl, World.ownsRow_nil _ _ _ _, Fr.refl _ _⟩
  case round =>
    obtain ⟨k, hk, rfl, hown, hF⟩ := hrel
    obtain ⟨A, c, rfl⟩ := hown.shape
    have O := hid_ hown
    have F := hid_ hF
    clear hown hF
    have hi0 : (0 : Int) ≤ (k : Int) := Int.natCast_nonneg _
    by_cases hlt : k < ps.length
    · have hi1 : (k : Int) < (ps.length : Int) := by omega
      obtain ⟨x, hx⟩ : ∃ x, ps[k]? = some x := ⟨_, List.getElem?_eq_getElem hlt⟩
      obtain ⟨A2, c2, L2⟩ := x
      have hc : wr.cell? ⟨b, k, none⟩ = some (.slice A2 L2.length c2) := cellFr (HB.out k _ hx) F.out
      have R := hid_ ((HR.out _ (List.mem_of_getElem? hx)).none_fr F.out)
      have HT := hid_ (ptRL_take hx)
      have hle : (ptRL (ps.take k)).length + L2.length ≤ (ptRL ps).length := by
        have := ptRL_le ps (k + 1)
        rw [HT.out, List.length_append] at this
        exact this
      have hfs := F.out.size
      clear hx
      go_wp2_with (at_builtin; refine wpList_append_any _ rfl (.tmp 12) (.tmp 13) 36 rfl w.heap.size 62 i0 _ 2 32 Try.underlying36 Hi.out.1 Hi.out.2.1 Hi.out.2.2.1 Hi.out.2.2.2 rfl (by omega) (.slice A (ptRL (ps.take k)).length c) (ptRL (ps.take k)).length (rwFlat (ptRL (ps.take k))) rfl O.out A2 L2.length c2 (rwFlat L2) rfl R.out (rwFlat_one _) (by simp only [maxLen]; omega) (by omega) hfs ?_; intro A3 c3 w3 hown3 hgr3)
      have R3 : w3.ownsRow w.heap.size 62 2 (.slice A3 ((ptRL (ps.take k)).length + L2.length) c3) (ptRL (ps.take (k + 1))).length (rwFlat (ptRL (ps.take (k + 1)))) ∧ Fr none_ w w3 := by
        refine ⟨?_, F.out.grown hgr3 (fun b hb => .inr (O.out.lt b hb).1)⟩
        rw [HT.out, List.length_append, rwFlat_app]
        exact hown3
      have HR3 := hid_ R3
      clear R3 hown3 hgr3
      go_wp2
      go_roundw
      case rel => exact ⟨k + 1, by omega, by go_num, HR3.out.1, HR3.out.2⟩
      case measure => simp [intOf]; omega
    · obtain rfl : k = ps.length := by omega
      have o := O.out
      have f := F.out
      rw [List.take_length] at o
      go_wp2
      go_ret
      rw [List.take_length]
      exact ⟨A, c, rfl, o, f⟩
set_option maxHeartbeats 2000000 in
theorem bright_ok (k : ByteArray) (w : World) (h : SzOk k) : Calls Try.prog 120 #[.string k] w fun e w' => e = .returned (.bool (decide (1 ≤ k.size) && decide (k.size ≤ 16))) ∧ Fr none_ w w' := by
  have hl := h.le
  clear h
  go_enter Try.func120, Try.ntmps120
  by_cases h1 : 1 ≤ k.size
  · have e1 : decide ((1 : Int) ≤ (k.size : Int)) = true := by simp; omega
    have H1 := hid_ h1
    by_cases h2 : k.size ≤ 16
    · have e2 : decide ((k.size : Int) ≤ 16) = true := by simp; omega
      have H2 := hid_ h2
      clear h1 h2
      go_wp2
      go_ret
      exact ⟨by simp [H1.out, H2.out], Fr.refl _ _⟩
    · have e2 : decide ((k.size : Int) ≤ 16) = false := by simp; omega
      have H2 := hid_ h2
      clear h1 h2
      go_wp2
      go_ret
      exact ⟨by simp [H1.out, H2.out], Fr.refl _ _⟩
  · have e1 : decide ((1 : Int) ≤ (k.size : Int)) = false := by simp; omega
    have H1 := hid_ h1
    clear h1
    go_wp2
    go_ret
    exact ⟨by simp [H1.out], Fr.refl _ _⟩
abbrev rwV (p : Rw) : Value := .agg #[.string p.1, .string p.2]
set_option maxHeartbeats 2000000 in
theorem fits_ok (p : Rw) (w : World) (h1 : SzOk p.1) (h2 : SzOk p.2) : Calls Try.prog 116 #[rwV p] w fun e w' => e = .returned (.bool (fitsR p)) ∧ Fr none_ w w' := by
  have hl := h2.le
  have H1 := hid_ h1
  obtain ⟨w0, hw0⟩ : ∃ z, z = w.alloc (.cells #[.string p.1, .string p.2] 62) := ⟨_, rfl⟩
  have f0 : Fr none_ w w0 := by rw [hw0]; exact (Fr.refl none_ w).alloc _
  have B0 : Hid (Blk w0 w.heap.size 62 #[.string p.1, .string p.2]) := hid_ (by rw [hw0]; exact Blk.new w _ _)
  have F0 := hid_ f0
  clear h1 h2 f0
  go_enter Try.func116, Try.ntmps116
  go_upto_region 1 with fail
  change Code.wp _ _ _ _ (w.alloc (.cells #[.string p.1, .string p.2] 62))
  rw [← hw0]
  clear hw0
  have c0 : w0.cell? ⟨w.heap.size, 0, none⟩ = some (.string p.1) := B0.out.cell' rfl
  go_wp2_with fail
  refine (bright_ok p.1 _ H1.out).mono ?_
  rintro e w1 ⟨rfl, hf⟩
  have c1 : w1.cell? ⟨w.heap.size, 1, none⟩ = some (.string p.2) := (B0.out.fr hf id).cell' rfl
  replace F0 := hid_ (F0.out.then_none hf)
  clear c0 hf
  obtain ⟨b, hb⟩ : ∃ b, (decide (1 ≤ p.1.size) && decide (p.1.size ≤ 16)) = b := ⟨_, rfl⟩
  rw [hb]
  have HB := hid_ hb
  clear hb
  cases b with
  | false =>
    go_wp2
    go_ret
    exact ⟨by simp [fitsR, HB.out], F0.out⟩
  | true =>
    by_cases h2 : p.2.size ≤ 16
    · have e2 : decide ((p.2.size : Int) ≤ 16) = true := by simp; omega
      have H2 := hid_ h2
      clear h2
      go_wp2
      go_ret
      exact ⟨by simp [fitsR, HB.out, H2.out], F0.out⟩
    · have e2 : decide ((p.2.size : Int) ≤ 16) = false := by simp; omega
      have H2 := hid_ h2
      clear h2
      go_wp2
      go_ret
      exact ⟨by simp [fitsR, HB.out, H2.out], F0.out⟩
set_option maxHeartbeats 4000000 in
theorem placeR_ok (L : List Rw) (A : Option Addr) (c : Nat) (key : ByteArray) (w : World) (h : Reads w 2 A L.length (rwFlat L)) (ho : RwsOk L) (hk : SzOk key) :
    Calls Try.prog 119 #[.slice A L.length c, .string key] w fun e w' => e = .returned (.int .i64 (plR L key : Nat)) ∧ Fr none_ w w' := by
  have H0 := hid_ h
  have hle := plR_le L key
  have h1000 := ho.1
  have HSZ := hid_ (And.intro ho.2 hk)
  clear h ho hk
  go_enter Try.func119, Try.ntmps119
  go_wp2_with fail
  go_loopw [5] (fun i wr => ∃ k : Nat, k ≤ plR L key ∧ i = .int .i64 k ∧ Fr none_ w wr) (fun i _ => plR L key - (intOf i).toNat)
  case atStart => exact ⟨0, Nat.zero_le _, rfl, Fr.refl _ _⟩
  case round =>
    obtain ⟨k, hk, rfl, hF⟩ := hrel
    have H := hid_ (H0.out.none_fr hF)
    have F := hid_ hF
    clear hF
    have hi0 : (0 : Int) ≤ (k : Int) := Int.natCast_nonneg _
    by_cases hlt : k < plR L key
    · have hkl : k < L.length := by omega
      have hi1 : (k : Int) < (L.length : Int) := by omega
      have hd1 : decide ((k : Int) < (L.length : Int)) = true := by simp; omega
      obtain ⟨p, hp⟩ : ∃ p, L[k]? = some p := ⟨_, List.getElem?_eq_getElem hkl⟩
      obtain ⟨b, off, rfl, hb, c0, c1⟩ := rw_at H.out hp
      have hcmp : decide (cmpI p.1 key < 0) = true := by rw [cmp_neg]; exact plR_in hlt hp
      have hsz := (HSZ.out.1 p (List.mem_of_getElem? hp)).1
      have HCMP := hid_ hcmp
      clear hp hcmp c1
      go_wp2_with fail
      refine (compare_ok p.1 key _ hsz.le HSZ.out.2.le).mono ?_
      rintro e w1 ⟨rfl, q, rfl⟩
      have hcmp := HCMP.out
      have FQ := hid_ (F.out.drewN q)
      clear c0
      go_wp2_with fail
      go_roundw
      case rel => exact ⟨k + 1, by omega, by go_num, FQ.out⟩
      case measure => simp [intOf]; omega
    · obtain rfl : k = plR L key := by omega
      by_cases hl : plR L key < L.length
      · obtain ⟨p, hp⟩ : ∃ p, L[plR L key]? = some p := ⟨_, List.getElem?_eq_getElem hl⟩
        obtain ⟨b, off, rfl, hb, c0, c1⟩ := rw_at H.out hp
        have hcmp : decide (cmpI p.1 key < 0) = false := by rw [cmp_neg]; exact plR_at hp
        have hsz := (HSZ.out.1 p (List.mem_of_getElem? hp)).1
        obtain ⟨n, hn⟩ : ∃ n, n = plR L key := ⟨_, rfl⟩
        have hi1 : (n : Int) < (L.length : Int) := by omega
        have hd1 : decide ((n : Int) < (L.length : Int)) = true := by simp; omega
        rw [← hn] at c0 c1 hi0
        rw [← hn]
        have HCMP := hid_ hcmp
        have HN := hid_ hn
        clear hp hcmp c1 hl hlt hn hk hle
        go_wp2_with fail
        refine (compare_ok p.1 key _ hsz.le HSZ.out.2.le).mono ?_
        rintro e w1 ⟨rfl, q, rfl⟩
        have hcmp := HCMP.out
        have FQ := hid_ (F.out.drewN q)
        go_wp2_with fail
        go_ret
        exact ⟨by rw [← HN.out]; rfl, FQ.out⟩
      · have he : plR L key = L.length := by omega
        have HE := hid_ he
        have hd1 : decide ((L.length : Int) < (L.length : Int)) = false := by simp
        rw [he]
        clear he hl hlt hk hle
        go_wp2_with fail
        go_ret
        exact ⟨by rw [HE.out]; rfl, F.out⟩
set_option maxHeartbeats 4000000 in
theorem findR_ok (L : List Rw) (A : Option Addr) (c : Nat) (key : ByteArray) (w : World) (h : Reads w 2 A L.length (rwFlat L)) (ho : RwsOk L) (hk : SzOk key) :
    Calls Try.prog 118 #[.slice A L.length c, .string key] w fun e w' => e = .returned (.tuple #[.int .i64 (plR L key : Nat), .bool (atR L key)]) ∧ Fr none_ w w' := by
  have H0 := hid_ h
  have HO := hid_ ho
  have HK := hid_ hk
  have hle := plR_le L key
  have h1000 := ho.1
  clear h ho hk
  go_enter Try.func118, Try.ntmps118
  go_wp2_with fail
  refine (placeR_ok L A c key _ H0.out HO.out HK.out).mono ?_
  rintro e w1 ⟨rfl, hf⟩
  have H := hid_ (H0.out.none_fr hf)
  have F := hid_ hf
  clear hf
  obtain ⟨n, hn⟩ : ∃ n, n = plR L key := ⟨_, rfl⟩
  rw [← hn]
  rw [← hn] at hle
  have HN := hid_ hn
  have hi0 : (0 : Int) ≤ (n : Int) := Int.natCast_nonneg _
  by_cases hl : n < L.length
  · obtain ⟨p, hp⟩ : ∃ p, L[n]? = some p := ⟨_, List.getElem?_eq_getElem hl⟩
    obtain ⟨b, off, rfl, hb, c0, c1⟩ := rw_at H.out hp
    have hat : atR L key = sEq p.1 key := atR_some (by rw [← hn]; exact hp)
    have HAT := hid_ hat
    have hi1 : (n : Int) < (L.length : Int) := by omega
    have hd1 : decide ((n : Int) < (L.length : Int)) = true := by simp; omega
    have hd2 : decide (n < L.length) = true := by simp; omega
    clear hp c1 hat hn hl
    go_wp2_with fail
    go_quiet (fail)
    go_wp2_with fail
    go_ret2
    exact ⟨by rw [HAT.out, ← HN.out]; rfl, by repeat (first | exact F.out | apply Fr.drewN | apply Fr.drew)⟩
  · have he : n = L.length := by omega
    have hat : atR L key = false := atR_none (by rw [← hn]; exact he)
    have HAT := hid_ hat
    have hd1 : decide ((n : Int) < (L.length : Int)) = false := by simp; omega
    have hd2 : decide (n < L.length) = false := by simp; omega
    clear hat hn hl he
    go_wp2_with fail
    go_quiet (fail)
    go_wp2_with fail
    go_ret2
    exact ⟨by rw [HAT.out, ← HN.out]; rfl, by repeat (first | exact F.out | apply Fr.drewN | apply Fr.drew)⟩
theorem copyR_ok (L : List Rw) (A : Option Addr) (c : Nat) (w : World) (h : Reads w 2 A L.length (rwFlat L)) (hl : L.length ≤ 300000) :
    Calls Try.prog 84 #[.slice A L.length c] w (JoinPostR w L) := by
  have H := hid_ h
  clear h
  go_enter Try.func84, Try.ntmps84
  go_wp2_with fail
  have hB := Blk.new w 36 #[.slice A L.length c]
  refine (list_ok w.heap.size [(A, c, L)] _ ?_ ?_ ?_ ?_).mono ?_
  · intro i x hx
    match i, hx with
    | 0, hx => cases hx; rw [hB.cell]; rfl
    | k + 1, hx => simp at hx
  · intro x hx
    obtain rfl : x = (A, c, L) := by simpa using hx
    exact H.out.alloc _
  · simp [ptRL]; omega
  · simp
  rintro e w1 ⟨A', c', rfl, ho, hf⟩
  rw [show ptRL [(A, c, L)] = L by simp [ptRL]] at ho ⊢
  have O := hid_ ho
  have F := hid_ hf
  clear ho hf hB
  go_wp2
  go_ret
  exact ⟨A', c', rfl, own_base O.out (by simp), (((Fr.refl none_ w).alloc _).then_none F.out)⟩
end Go.Proofs.Ytpjbncbmdfmlpaa
namespace Go.Proofs.Ytpjbncbmdfmlpaa
open Go

section
variable {P : Program} {md : Region.Mode} {ops : Array Oper} {Q : Exit → Act → World → Prop} {S : World → Prop}
/-- The two operations that are ready. -/
theorem wpAnyT_two {m i j : Nat} {oi oj : Oper} {fuel : Nat} {listed : Array Bool} {a : Act} {w : World} (hi : ops[i]? = some oi) (hj : ops[j]? = some oj) (gi : oi.guard = none) (gj : oj.guard = none) (hr : Region.ready md ops listed = [i, j])
    (h1 : Oper.wp P oi a w (fun a' w' => (i = m ∨ S w') ∧ wpAnyT P md ops Q S m fuel (listed.setIfInBounds i true) a' w') Q)
    (h2 : Oper.wp P oj a w (fun a' w' => (j = m ∨ S w') ∧ wpAnyT P md ops Q S m fuel (listed.setIfInBounds j true) a' w') Q) : wpAnyT P md ops Q S m (fuel + 1) listed a w := by
  refine wpAnyT_all hr (by simp) (fun k hk => ?_)
  have hk' : k = i ∨ k = j := by simpa using hk
  rcases hk' with rfl | rfl
  · unfold wpOp
    have hw : Region.wanted oi (yielded ops a.tmps) = true := by simp [Region.wanted, gi]
    simp only [hi, hw, if_true]
    exact .inl h1
  · unfold wpOp
    have hw : Region.wanted oj (yielded ops a.tmps) = true := by simp [Region.wanted, gj]
    simp only [hj, hw, if_true]
    exact .inl h2
def wpAnyU (P : Program) (md : Region.Mode) (ops : Array Oper) (Q : Exit → Act → World → Prop) (S : World → Prop) (m : Nat) : Nat → Array Bool → Act → World → Prop
  | 0, listed, a, w => Region.ready md ops listed = [] ∧ Q .normal a w
  | fuel + 1, listed, a, w =>
    (Region.ready md ops listed = [] → Q .normal a w) ∧
    ∀ i ∈ Region.ready md ops listed, wpOp P ops Q i (fun a' w' => (m ≤ i ∨ S w') ∧ wpAnyU P md ops Q S m fuel (listed.setIfInBounds i true) a' w') a w
theorem wpAny_of_U {m : Nat} : ∀ (fuel : Nat) (listed : Array Bool) (a : Act) (w : World), wpAnyU P md ops Q S m fuel listed a w → wpAny P md ops Q fuel listed a w
  | 0, _, _, _, h => h
  | fuel + 1, _, _, _, h => ⟨h.1, fun i hi => wpOp_mono (fun a' w' h' => wpAny_of_U fuel _ a' w' h'.2) (h.2 i hi)⟩
/-- As wpAnyU_first, where m waits for i by whatever way. -/
theorem wpAnyU_first2 {m i f : Nat} {oi : Oper} {v : Value} (hi : ops[i]? = some oi) (hsel : ∀ (j : Nat) (o : Oper) cs b, ops[j]? = some o → o.op ≠ .select cs b)
    (hQ : ∀ c a w, Q (.panic c) (a.put oi.dst v) w → Q (.panic c) a w) (hm : ∀ j, j < ops.size → m ≤ j → j ≠ i → waitsB md ops f j i = true) :
    ∀ (fuel : Nat) (listed : Array Bool) (a : Act) (w : World), Closed md ops listed →
      (∀ j oj, ops[j]? = some oj → j ≠ i → listed.getD j true = false → (∀ e ∈ oj.after, Region.binds md e = true → e.on ≠ i) → oi.apart ops oj = true) →
      i ∈ Region.ready md ops listed → YieldsIf P ops S oi v a → S w →
      wpAnyU P md ops Q S m fuel (listed.setIfInBounds i true) (a.put oi.dst v) w → wpAnyU P md ops Q S m (fuel + 1) listed a w := by
  intro fuel
  induction fuel with
  | zero =>
    intro listed a w hc _ hr hy hS H
    refine ⟨fun h => (by rw [h] at hr; cases hr), fun j hj => ?_⟩
    by_cases hji : j = i
    · subst hji; exact hy.wpOp hi hS ⟨.inr hS, H⟩
    · have := ready_mono hj hji
      rw [H.1] at this
      cases this
  | succ fuel ih =>
    intro listed a w hc hfree hr hy hS H
    refine ⟨fun h => (by rw [h] at hr; cases hr), fun j hj => ?_⟩
    by_cases hji : j = i
    · subst hji; exact hy.wpOp hi hS ⟨.inr hS, H⟩
    · have h1 := H.2 j (ready_mono hj hji)
      obtain ⟨hjun, oj, hoj, hall⟩ := mem_ready.1 hj
      have hnot : ∀ e ∈ oj.after, Region.binds md e = true → e.on ≠ i := fun e he hb heq => by
        have h1 := hall e he hb
        have h0 := (mem_ready.1 hr).1
        rw [heq] at h1
        rcases Nat.lt_or_ge i listed.size with h' | h'
        · simp [h'] at h0 h1; rw [h0] at h1; cases h1
        · simp [Array.getElem?_eq_none h'] at h1
      have hjm : ¬ m ≤ j := fun hmj => ready_waits hc hj (hm j (Array.getElem?_eq_some_iff.1 hoj).1 hmj hji) hr
      have h2 := wpOp_putIf hoj (hfree j oj hoj hji hjun hnot) (fun cs b => hsel i oi cs b hi) (fun cs b => hsel j oj cs b hoj) hQ hy h1
      have hfree' : ∀ k ok, ops[k]? = some ok → k ≠ i → (listed.setIfInBounds j true).getD k true = false →
          (∀ e ∈ ok.after, Region.binds md e = true → e.on ≠ i) → oi.apart ops ok = true := fun k ok hk hki hun hno => by
        refine hfree k ok hk hki ?_ hno
        by_cases hjk : j = k
        · subst hjk; exact hjun
        · rw [getD_set_ne true hjk] at hun; exact hun
      refine wpOp_mono (fun a' w' h3 => ?_) h2
      have hs : S w' := h3.2.1.resolve_left hjm
      refine ⟨.inr hs, ih (listed.setIfInBounds j true) a' w' (hc.set hj) hfree' (ready_mono hr (Ne.symm hji)) h3.1 hs ?_⟩
      rw [Array.setIfInBounds_comm _ _ hji]
      exact h3.2.2
theorem wpAnyU_take2 {m i : Nat} {oi : Oper} {v : Value} {fuel : Nat} {listed : Array Bool} {a : Act} {w : World} (hi : ops[i]? = some oi)
    (hs : Region.noSelect ops = true) (hf : Region.free md ops listed i = true) (hr : (Region.ready md ops listed).contains i = true)
    (hm : ((List.range ops.size).all (fun j => !decide (m ≤ j) || decide (j = i) || waitsB md ops ops.size j i) && closedB md ops listed) = true)
    (hQ : ∀ c a w, Q (.panic c) (a.put oi.dst v) w → Q (.panic c) a w) (hy : YieldsIf P ops S oi v a) (hS : S w)
    (h : wpAnyU P md ops Q S m fuel (listed.setIfInBounds i true) (a.put oi.dst v) w) : wpAnyU P md ops Q S m (fuel + 1) listed a w := by
  rw [Bool.and_eq_true] at hm
  exact wpAnyU_first2 hi (Region.noSelect_spec hs) hQ (fun j hj hmj hji => by have := List.all_eq_true.1 hm.1 j (List.mem_range.2 hj); simpa [hmj, hji] using this) fuel listed a w (closed_of hm.2) (Region.free_spec hi hf) (by simpa using hr) hy hS h
theorem wpAnyU_all {m : Nat} {rs : List Nat} {fuel : Nat} {listed : Array Bool} {a : Act} {w : World} (hr : Region.ready md ops listed = rs) (hne : rs ≠ [])
    (h : ∀ i ∈ rs, wpOp P ops Q i (fun a' w' => (m ≤ i ∨ S w') ∧ wpAnyU P md ops Q S m fuel (listed.setIfInBounds i true) a' w') a w) : wpAnyU P md ops Q S m (fuel + 1) listed a w :=
  ⟨fun h0 => absurd (hr ▸ h0) hne, hr ▸ h⟩
/-- The one operation that is ready. -/
theorem wpAnyU_one {m i : Nat} {oi : Oper} {fuel : Nat} {listed : Array Bool} {a : Act} {w : World} (hi : ops[i]? = some oi) (hg : oi.guard = none) (hr : Region.ready md ops listed = [i])
    (h : Oper.wp P oi a w (fun a' w' => (m ≤ i ∨ S w') ∧ wpAnyU P md ops Q S m fuel (listed.setIfInBounds i true) a' w') Q) : wpAnyU P md ops Q S m (fuel + 1) listed a w := by
  refine wpAnyU_all hr (by simp) (fun j hj => ?_)
  obtain rfl : j = i := by simpa using hj
  unfold wpOp
  have hw : Region.wanted oi (yielded ops a.tmps) = true := by simp [Region.wanted, hg]
  simp only [hi, hw, if_true]
  exact .inl h
/-- The two operations that are ready (with a tail). -/
theorem wpAnyU_two {m i j : Nat} {oi oj : Oper} {fuel : Nat} {listed : Array Bool} {a : Act} {w : World} (hi : ops[i]? = some oi) (hj : ops[j]? = some oj) (gi : oi.guard = none) (gj : oj.guard = none) (hr : Region.ready md ops listed = [i, j])
    (h1 : Oper.wp P oi a w (fun a' w' => (m ≤ i ∨ S w') ∧ wpAnyU P md ops Q S m fuel (listed.setIfInBounds i true) a' w') Q)
    (h2 : Oper.wp P oj a w (fun a' w' => (m ≤ j ∨ S w') ∧ wpAnyU P md ops Q S m fuel (listed.setIfInBounds j true) a' w') Q) : wpAnyU P md ops Q S m (fuel + 1) listed a w := by
  refine wpAnyU_all hr (by simp) (fun k hk => ?_)
  have hk' : k = i ∨ k = j := by simpa using hk
  rcases hk' with rfl | rfl
  · unfold wpOp
    have hw : Region.wanted oi (yielded ops a.tmps) = true := by simp [Region.wanted, gi]
    simp only [hi, hw, if_true]
    exact .inl h1
  · unfold wpOp
    have hw : Region.wanted oj (yielded ops a.tmps) = true := by simp [Region.wanted, gj]
    simp only [hj, hw, if_true]
    exact .inl h2
theorem wpAnyU_done {m : Nat} {listed : Array Bool} {a : Act} {w : World} (hr : Region.ready md ops listed = []) (h : Q .normal a w) : ∀ fuel, wpAnyU P md ops Q S m fuel listed a w
  | 0 => ⟨hr, h⟩
  | _ + 1 => ⟨fun _ => h, by rw [hr]; simp⟩
theorem wp_region_U {id m : Nat} {a : Act} {w : World} (hm : P.follows .mixedOrders = true)
    (h : wpAnyU P .any ops Q S m ops.size (Array.replicate ops.size false) a w.drew) : (Code.region id ops true).wp P Q a w :=
  wp_region_any hm (wpAny_of_U _ _ _ _ h)
end
end Go.Proofs.Ytpjbncbmdfmlpaa
namespace Go.Proofs.Ytpjbncbmdfmlpaa
open Go.RowKit
set_option linter.unusedVariables false

/-- Cells written one behind the other. -/
def setA (cs : Array Value) (o : Nat) : List Value → Array Value
  | [] => cs
  | v :: r => setA (cs.setIfInBounds o v) (o + 1) r
theorem setA_size : ∀ (vs : List Value) (cs : Array Value) (o : Nat), (setA cs o vs).size = cs.size
  | [], cs, o => rfl
  | v :: r, cs, o => by rw [setA, setA_size r]; simp
theorem setA_out : ∀ (vs : List Value) (cs : Array Value) (o k : Nat), (k < o ∨ o + vs.length ≤ k) → (setA cs o vs)[k]? = cs[k]?
  | [], cs, o, k, h => rfl
  | v :: r, cs, o, k, h => by
    rw [setA, setA_out r _ _ _ (by simp at h; omega), Array.getElem?_setIfInBounds_ne (by simp at h; omega)]
theorem setA_in : ∀ (vs : List Value) (cs : Array Value) (o j : Nat) (v : Value), vs[j]? = some v → o + j < cs.size → (setA cs o vs)[o + j]? = some v
  | [], cs, o, j, v, h, _ => by simp at h
  | u :: r, cs, o, 0, v, h, hl => by
    obtain rfl : u = v := by simpa using h
    rw [setA, setA_out r _ _ _ (by omega)]
    have hl' : o < cs.size := by omega
    show (cs.setIfInBounds o u)[o]? = some u
    simp [hl']
  | u :: r, cs, o, j + 1, v, h, hl => by
    have := setA_in r (cs.setIfInBounds o u) (o + 1) j v (by simpa using h) (by simp; omega)
    rw [setA, show o + (j + 1) = o + 1 + j by omega]
    exact this
theorem Blk.setCells {g : Nat} {t : TypeId} : ∀ (vs : List Value) (o : Nat) (cs : Array Value) (w : World), Blk w g t cs → Blk (w.setCells g o vs) g t (setA cs o vs)
  | [], o, cs, w, h => h
  | v :: r, o, cs, w, h => Blk.setCells r (o + 1) _ _ (h.set_ o v)
theorem Fr.setCells {g : Nat} {S : Nat → Prop} {a : World} : ∀ (vs : List Value) (o : Nat) (w : World), Fr S a w → (S g ∨ a.heap.size ≤ g) → Fr S a (w.setCells g o vs)
  | [], o, w, h, _ => h
  | v :: r, o, w, h, hs => Fr.setCells r (o + 1) _ (h.setCell (p := ⟨g, o, none⟩) hs v) hs
theorem new_there (w : World) (t : TypeId) (cs : Array Value) : (w.alloc (.cells cs t)).there w.heap.size 0 cs.size := by
  intro j hj
  have hb := Blk.new w t cs
  refine ⟨?_, hb.frozen _⟩
  rw [hb.cell, Nat.zero_add, Array.getElem?_eq_getElem hj]
  rfl
theorem new_copy (w : World) (t : TypeId) (zs : Array Value) (vs : List Value) (hz : zs.size = vs.length) : Blk ((w.alloc (.cells zs t)).setCells w.heap.size 0 vs) w.heap.size t vs.toArray ∧ Fr none_ w ((w.alloc (.cells zs t)).setCells w.heap.size 0 vs) := by
  refine ⟨?_, Fr.setCells _ _ _ ((Fr.refl none_ w).alloc _) (.inr (Nat.le_refl _))⟩
  have h := Blk.setCells vs 0 _ _ (Blk.new w t zs)
  have e : setA zs 0 vs = vs.toArray := by
    apply Array.ext_getElem?
    intro k
    rcases Nat.lt_or_ge k vs.length with h1 | h1
    · have := setA_in vs zs 0 k vs[k] (List.getElem?_eq_getElem h1) (by omega)
      rw [Nat.zero_add] at this
      rw [this, List.getElem?_toArray, List.getElem?_eq_getElem h1]
    · rw [Array.getElem?_eq_none (by rw [setA_size]; omega), Array.getElem?_eq_none (by simpa using h1)]
  rwa [e] at h
end Go.Proofs.Ytpjbncbmdfmlpaa
namespace Go.Proofs.Ytpjbncbmdfmlpaa
open Go.RowKit
set_option linter.unusedVariables false
theorem Blk.there7 {w : World} {g n : Nat} {t : TypeId} {cs : Array Value} (h : Blk w g t cs) (hn : cs.size = n) : w.there g 0 n := by
  subst hn
  intro j hj
  refine ⟨?_, h.frozen _⟩
  rw [h.cell, Nat.zero_add, Array.getElem?_eq_getElem hj]
  rfl
theorem Blk.new7 {w : World} {b : Nat} (t : TypeId) (cs : Array Value) (h : b = w.heap.size) : Blk (w.alloc (.cells cs t)) b t cs := by
  subst h
  exact Blk.new w t cs
theorem Blk.over7 {w : World} {g : Nat} {t : TypeId} {zs : Array Value} (h : Blk w g t zs) (vs : List Value) (hz : zs.size = vs.length) : Blk (w.setCells g 0 vs) g t vs.toArray ∧ Fr (only g) w (w.setCells g 0 vs) := by
  refine ⟨?_, Fr.setCells _ _ _ (Fr.refl _ _) (.inl rfl)⟩
  have h := Blk.setCells vs 0 _ _ h
  have e : setA zs 0 vs = vs.toArray := by
    apply Array.ext_getElem?
    intro k
    rcases Nat.lt_or_ge k vs.length with h1 | h1
    · have := setA_in vs zs 0 k vs[k] (List.getElem?_eq_getElem h1) (by omega)
      rw [Nat.zero_add] at this
      rw [this, List.getElem?_toArray, List.getElem?_eq_getElem h1]
    · rw [Array.getElem?_eq_none (by rw [setA_size]; omega), Array.getElem?_eq_none (by simpa using h1)]
  rwa [e] at h
theorem Blk.range7 {w : World} {g : Nat} {t : TypeId} {l : List Value} (h : Blk w g t l.toArray) : w.rangeAt g 0 l := fun j v hv => by
  rw [Nat.zero_add]
  exact h.cell' (by simpa using hv)
section
variable {P : Program} {md : Region.Mode} {ops : Array Oper} {Q : Exit → Act → World → Prop} {S : World → Prop}
theorem wpAnyU_one7 {m i : Nat} {oi : Oper} {fuel : Nat} {listed : Array Bool} {a : Act} {w : World} (hi : ops[i]? = some oi) (hw : Region.wanted oi (yielded ops a.tmps) = true) (hr : Region.ready md ops listed = [i])
    (h : Oper.wp P oi a w (fun a' w' => (m ≤ i ∨ S w') ∧ wpAnyU P md ops Q S m fuel (listed.setIfInBounds i true) a' w') Q) : wpAnyU P md ops Q S m (fuel + 1) listed a w := by
  refine wpAnyU_all hr (by simp) (fun j hj => ?_)
  obtain rfl : j = i := by simpa using hj
  unfold wpOp
  simp only [hi, hw, if_true]
  exact .inl h
theorem wpAnyU_two7 {m i j : Nat} {oi oj : Oper} {fuel : Nat} {listed : Array Bool} {a : Act} {w : World} (hi : ops[i]? = some oi) (hj : ops[j]? = some oj) (wi : Region.wanted oi (yielded ops a.tmps) = true) (wj : Region.wanted oj (yielded ops a.tmps) = true) (hr : Region.ready md ops listed = [i, j])
    (h1 : Oper.wp P oi a w (fun a' w' => (m ≤ i ∨ S w') ∧ wpAnyU P md ops Q S m fuel (listed.setIfInBounds i true) a' w') Q)
    (h2 : Oper.wp P oj a w (fun a' w' => (m ≤ j ∨ S w') ∧ wpAnyU P md ops Q S m fuel (listed.setIfInBounds j true) a' w') Q) : wpAnyU P md ops Q S m (fuel + 1) listed a w := by
  refine wpAnyU_all hr (by simp) (fun k hk => ?_)
  have hk' : k = i ∨ k = j := by simpa using hk
  rcases hk' with rfl | rfl
  · unfold wpOp
    simp only [hi, wi, if_true]
    exact .inl h1
  · unfold wpOp
    simp only [hj, wj, if_true]
    exact .inl h2
end
end Go.Proofs.Ytpjbncbmdfmlpaa
namespace Go.Proofs.Ytpjbncbmdfmlpaa
open Go.RowKit Go.BigFrame
set_option maxRecDepth 100000
set_option linter.unusedVariables false

def RightPost (L : List Rw) (w : World) (e : Ending) (w' : World) : Prop := ∃ b : Bool, e = .returned (.bool b) ∧ (b = true ↔ RightR L) ∧ Fr none_ w w'
set_option maxHeartbeats 4000000 in
theorem rightR_ok (L : List Rw) (A : Option Addr) (c : Nat) (w : World) (h : Reads w 2 A L.length (rwFlat L)) (ho : RwsOk L) :
    Calls Try.prog 106 #[.slice A L.length c] w (RightPost L w) := by
  have H1 := hid_ h
  have OK := hid_ ho
  have h1000 := ho.1
  clear h ho
  go_enter Try.func106, Try.ntmps106
  go_wp2_with fail
  go_loopw [7] (fun i wr => ∃ k : Nat, k ≤ L.length ∧ i = .int .i64 k ∧ RightTo L k ∧ Fr none_ w wr) (fun i _ => L.length - (intOf i).toNat)
  case atStart => exact ⟨0, Nat.zero_le _, rfl, ⟨fun j p hj => by omega, fun j p q hj => by omega⟩, Fr.refl _ _⟩
  case round =>
    obtain ⟨k, hk, rfl, hst, hF⟩ := hrel
    have ST := hid_ hst
    have H := hid_ (H1.out.none_fr hF)
    have F := hid_ hF
    clear hst hF
    have hi0 : (0 : Int) ≤ (k : Int) := Int.natCast_nonneg _
    by_cases hlt : k < L.length
    · have hi1' : (k : Int) < (L.length : Int) := by omega
      obtain ⟨p, hp⟩ : ∃ p, L[k]? = some p := ⟨_, List.getElem?_eq_getElem hlt⟩
      obtain ⟨b, off, rfl, hb2, c0, c1⟩ := rw_at H.out hp
      have HP := hid_ hp
      clear hp
      go_upto_region 4 with fail
      obtain ⟨X, hX⟩ : ∃ X, X = wr.heap.size := ⟨_, rfl⟩
      obtain ⟨w2, hw2⟩ : ∃ w2, w2 = wr.alloc (.cells #[.string p.1, .string p.2] 62) := ⟨_, rfl⟩
      have f2 : Fr none_ wr w2 := by rw [hw2]; exact (Fr.refl none_ wr).alloc _
      have BX : Hid (Blk w2 X 62 #[.string p.1, .string p.2]) := hid_ (by rw [hw2, hX]; exact Blk.new wr _ _)
      have H2 := hid_ (H.out.none_fr f2)
      have F2 := hid_ (F.out.then_none f2)
      rw [← hX]
      change Code.wp _ _ _ _ (wr.alloc (.cells #[.string p.1, .string p.2] 62))
      rw [← hw2]
      clear hw2 hX f2 c0 c1
      have hpk := OK.out.2 p (List.mem_of_getElem? HP.out)
      have HPK := hid_ hpk
      clear hpk
      go_cut [30] (fun v wq => ∃ bb : Bool, v = .bool bb ∧ (bb = false ↔ (fitsR p = true ∧ ∀ q, 0 < k → L[k - 1]? = some q → ltS q.1 p.1 = true)) ∧ Fr none_ w2 wq)
      case first =>
        have x0 : w2.cell? ⟨X, 0, none⟩ = some (.string p.1) := BX.out.cell' rfl
        have x1 : w2.cell? ⟨X, 1, none⟩ = some (.string p.2) := BX.out.cell' rfl
        have z0 : ∀ x : Wx w2, x.to.cell? ⟨X, 0, none⟩ = some (.string p.1) := fun x => x.cell x0
        have z1 : ∀ x : Wx w2, x.to.cell? ⟨X, 1, none⟩ = some (.string p.2) := fun x => x.cell x1
        clear x0 x1
        cases hin : fitsR p with
        | false =>
          have HC : Hid (∀ x : Wx w2, Calls Try.prog 116 #[rwV p] x.to fun e w' => e = .returned (.bool false) ∧ Fr none_ x.to w') := hid_ (fun x => by
            have h := fits_ok p x.to HPK.out.1 HPK.out.2
            rwa [hin] at h)
          have HIN := hid_ hin
          clear hin
          refine wp_region_quiet_x (by kernel_rfl) (by kernel_rfl) ?_
          repeat (first | go_big_quiet_step ((go_at_call 116; exact Calls.quiet_x (HC.out _))) | quiet_step ((go_at_call 116; exact Calls.quiet_x (HC.out _))))
          refine wpQuiet_nil ?_
          intro _ hw'
          obtain ⟨xq, hw''⟩ := hw'
          subst hw''
          go_wp2
          go_meet
          case rel => exact ⟨true, rfl, ⟨(fun h => by cases h), fun h => by rw [HIN.out] at h; cases h.1⟩, xq.fr⟩
        | true =>
          have HC : Hid (∀ x : Wx w2, Calls Try.prog 116 #[rwV p] x.to fun e w' => e = .returned (.bool true) ∧ Fr none_ x.to w') := hid_ (fun x => by
            have h := fits_ok p x.to HPK.out.1 HPK.out.2
            rwa [hin] at h)
          have HIN := hid_ hin
          clear hin
          by_cases hk0 : 0 < k
          · obtain ⟨q, hq⟩ : ∃ q, L[k - 1]? = some q := ⟨_, List.getElem?_eq_getElem (by omega)⟩
            obtain ⟨b3, off3, hA, hb3, d0, d1⟩ := rw_at H2.out hq
            obtain ⟨rfl, rfl⟩ : b = b3 ∧ off = off3 := by injection hA with hA; injection hA with e1 e2; exact ⟨e1, e2⟩
            have e0 : ∀ x : Wx w2, x.to.cell? ⟨b, off + (k - 1) * 2, none⟩ = some (.string q.1) := fun x => x.cell d0
            have hqk := (OK.out.2 q (List.mem_of_getElem? hq)).1
            have HQK := hid_ hqk
            have HQ := hid_ hq
            have HQ' : Hid ((∀ q', 0 < k → L[k - 1]? = some q' → ltS q'.1 p.1 = true) ↔ ltS q.1 p.1 = true) := hid_ ⟨fun h => h q hk0 hq, fun h q' _ hq' => by rw [hq] at hq'; cases hq'; exact h⟩
            have HC2 : Hid (∀ x : Wx w2, Calls Try.prog 72 #[.string q.1, .string p.1] x.to fun e w' => e = .returned (.int .i64 (cmpI q.1 p.1)) ∧ Fr none_ x.to w') := hid_ (fun x => (compare_ok q.1 p.1 x.to HQK.out.le HPK.out.1.le).mono (by rintro e w' ⟨rfl, n, rfl⟩; exact ⟨rfl, (Fr.refl none_ _).drewN n⟩))
            have hw1 : IntKind.i64.wrap ((k : Int) - 1) = ((k - 1 : Nat) : Int) := by rw [show (k : Int) - 1 = ((k - 1 : Nat) : Int) by omega]; exact IntWalk.i64_in _ (by omega)
            have hdk : decide (0 < k) = true := decide_eq_true hk0
            have hj0 : (0 : Int) ≤ ((k - 1 : Nat) : Int) := Int.natCast_nonneg _
            have hj1 : ((k - 1 : Nat) : Int) < (L.length : Int) := by omega
            obtain ⟨j, hj⟩ : ∃ j, j = k - 1 := ⟨_, rfl⟩
            rw [← hj] at e0 hw1 hj0 hj1
            have HJ := hid_ hj
            have hge := cmp_ge q.1 p.1
            have HGE := hid_ hge
            clear hq hA d0 d1 hqk hj hge hk0
            refine wp_region_quiet_x (by kernel_rfl) (by kernel_rfl) ?_
            repeat (first | go_big_quiet_step ((first | (go_at_call 116; exact Calls.quiet_x (HC.out _)) | (go_at_call 72; exact Calls.quiet_x (HC2.out _)))) | quiet_step ((first | (go_at_call 116; exact Calls.quiet_x (HC.out _)) | (go_at_call 72; exact Calls.quiet_x (HC2.out _)))))
            refine wpQuiet_nil ?_
            intro _ hw'
            obtain ⟨xq, hw''⟩ := hw'
            subst hw''
            go_wp2
            go_meet
            case rel => exact ⟨_, rfl, by
              rw [HGE.out, HIN.out, HQ'.out]
              cases ltS q.1 p.1 <;> simp, xq.fr⟩
          · have hdk : decide (0 < k) = false := decide_eq_false hk0
            have hk0' : k = 0 := by omega
            have HK0 := hid_ hk0'
            clear hk0 hk0'
            refine wp_region_quiet_x (by kernel_rfl) (by kernel_rfl) ?_
            repeat (first | go_big_quiet_step ((go_at_call 116; exact Calls.quiet_x (HC.out _))) | quiet_step ((go_at_call 116; exact Calls.quiet_x (HC.out _))))
            refine wpQuiet_nil ?_
            intro _ hw'
            obtain ⟨xq, hw''⟩ := hw'
            subst hw''
            go_wp2
            go_meet
            case rel => exact ⟨false, rfl, ⟨fun _ => ⟨HIN.out, fun q h => by have := HK0.out; omega⟩, fun _ => rfl⟩, xq.fr⟩
      case rest =>
      obtain ⟨bb, rfl, hbb, hf⟩ := hcut
      have F3 := hid_ (F2.out.then_none hf)
      have HB := hid_ hbb
      clear hf hbb H2 BX F2
      cases bb with
      | true =>
        have hns : ¬ RightR L := fun hS => by
          have h := HB.out.2 ⟨hS.fit p (List.mem_of_getElem? HP.out), fun q h0 hq => hS.ris (k - 1) q p hq (by rw [show k - 1 + 1 = k by omega]; exact HP.out)⟩
          cases h
        have HNS := hid_ hns
        clear hns
        go_wp2_with fail
        go_ret
        exact ⟨false, rfl, ⟨(fun h => by cases h), fun h => absurd h HNS.out⟩, F3.out⟩
      | false =>
        have hst : RightTo L (k + 1) := by
          have h := HB.out.1 rfl
          refine ⟨fun j p' hj hp' => ?_, fun j p' q hj hp' hq => ?_⟩
          · rcases Nat.lt_succ_iff_lt_or_eq.1 hj with hj | rfl
            · exact ST.out.1 j p' hj hp'
            · rw [HP.out] at hp'; cases hp'; exact h.1
          · rcases Nat.lt_succ_iff_lt_or_eq.1 hj with hj | hj
            · exact ST.out.2 j p' q hj hp' hq
            · rw [hj, HP.out] at hq
              cases hq
              exact h.2 p' (by omega) (by rw [show k - 1 = j by omega]; exact hp')
        have HST := hid_ hst
        clear hst
        go_wp2_with fail
        go_roundw
        case rel => exact ⟨k + 1, by omega, by go_num, HST.out, F3.out⟩
        case measure => simp [intOf]; omega
    · obtain rfl : k = L.length := by omega
      have hS : RightR L := ⟨fun p hp => by obtain ⟨j, hj, e⟩ := List.mem_iff_getElem.1 hp; exact ST.out.1 j p hj (by rw [List.getElem?_eq_getElem hj, e]), fun j p q hp hq => ST.out.2 j p q (List.getElem?_eq_some_iff.1 hq).1 hp hq⟩
      have HS := hid_ hS
      clear hS
      go_wp2_with fail
      go_ret
      exact ⟨true, rfl, ⟨fun _ => HS.out, fun _ => rfl⟩, F.out⟩

def PutPost (L : List Rw) (p : Rw) (w : World) (e : Ending) (w' : World) : Prop :=
  (fitsR p = true ∧ ∃ A c, e = .returned (.tuple #[.slice A (putR L p).length c, .bool (atR L p.1), .nilIface]) ∧ w'.ownsRow w.heap.size 62 2 (.slice A (putR L p).length c) (putR L p).length (rwFlat (putR L p)) ∧ Fr none_ w w') ∨
  (fitsR p = false ∧ e = .returned (.tuple #[.slice none 0 0, .bool false, errV 1]) ∧ Fr none_ w w')
theorem ptR_three (a b c : PtR) : ptRL [a, b, c] = a.2.2 ++ b.2.2 ++ c.2.2 := by simp [ptRL]
theorem ptR_two (a b : PtR) : ptRL [a, b] = a.2.2 ++ b.2.2 := by simp [ptRL]
theorem ptR_one (a : PtR) : ptRL [a] = a.2.2 := by simp [ptRL]
theorem rwFlat_single (p : Rw) : rwFlat [p] = [.string p.1, .string p.2] := by simp [rwFlat, rwCells]
set_option maxHeartbeats 4000000 in
theorem putR_ok (L : List Rw) (A : Option Addr) (c : Nat) (p : Rw) (w : World) (h : Reads w 2 A L.length (rwFlat L)) (ho : RwsOk L) (hc : L.length ≤ c) (hm : c ≤ maxLen) (hp : SzOk p.1 ∧ SzOk p.2) :
    Calls Try.prog 108 #[.slice A L.length c, rwV p] w (PutPost L p w) := by
  have HK := hid_ hp
  have HO := hid_ ho
  have hpl := plR_le L p.1
  have h3 := ho.1
  unfold maxLen at hm
  obtain ⟨w0, hw0⟩ : ∃ z, z = w.alloc (.cells #[.string p.1, .string p.2] 62) := ⟨_, rfl⟩
  have f0 : Fr none_ w w0 := by rw [hw0]; exact (Fr.refl none_ w).alloc _
  have B0 : Hid (Blk w0 w.heap.size 62 #[.string p.1, .string p.2]) := hid_ (by rw [hw0]; exact Blk.new w _ _)
  have F0 := hid_ f0
  have H := hid_ (h.none_fr f0)
  clear h ho hp f0
  go_enter Try.func108, Try.ntmps108
  go_upto_region 1 with fail
  change Code.wp _ _ _ _ (w.alloc (.cells #[.string p.1, .string p.2] 62))
  rw [← hw0]
  clear hw0
  have c0 : w0.cell? ⟨w.heap.size, 0, none⟩ = some (.string p.1) := B0.out.cell' rfl
  have c1 : w0.cell? ⟨w.heap.size, 1, none⟩ = some (.string p.2) := B0.out.cell' rfl
  go_wp2_with fail
  refine (fits_ok p _ HK.out.1 HK.out.2).mono ?_
  rintro e w1 ⟨rfl, hf1⟩
  clear c0 c1
  replace F0 := hid_ (F0.out.then_none hf1)
  replace B0 := hid_ (B0.out.fr hf1 id)
  replace H := hid_ (H.out.none_fr hf1)
  clear hf1
  cases hfit : fitsR p with
  | false =>
    have HF := hid_ hfit
    clear hfit
    go_wp2
    go_ret3
    exact .inr ⟨HF.out, rfl, F0.out⟩
  | true =>
  have HF := hid_ hfit
  clear hfit
  have c0 : w1.cell? ⟨w.heap.size, 0, none⟩ = some (.string p.1) := B0.out.cell' rfl
  have c1 : w1.cell? ⟨w.heap.size, 1, none⟩ = some (.string p.2) := B0.out.cell' rfl
  go_wp2_with fail
  refine (findR_ok L A c p.1 w1 H.out HO.out HK.out.1).mono ?_
  rintro e w2 ⟨rfl, hf2⟩
  clear c0 c1
  replace F0 := hid_ (F0.out.then_none hf2)
  replace B0 := hid_ (B0.out.fr hf2 id)
  replace H := hid_ (H.out.none_fr hf2)
  clear hf2
  obtain ⟨n, hn⟩ : ∃ n, n = plR L p.1 := ⟨_, rfl⟩
  obtain ⟨b, hb⟩ : ∃ b, b = atR L p.1 := ⟨_, rfl⟩
  rw [← hn, ← hb]
  rw [← hn] at hpl
  have hlt : b = true → n < L.length := fun h => by rw [hn]; exact atR_lt (by rw [← hb]; exact h)
  have HPUT : Hid (putR L p = L.take n ++ [p] ++ L.drop (n + if b then 1 else 0)) := hid_ (by rw [putR, ← hn, ← hb])
  have HB := hid_ hb
  have HN := hid_ hn
  clear hn hb
  have hi0 : (0 : Int) ≤ (n : Int) := Int.natCast_nonneg _
  have hi1 : (n : Int) ≤ (L.length : Int) := by omega
  have hcl : (L.length : Int) ≤ (c : Int) := by omega
  have hi2 : (n : Int) ≤ (c : Int) := by omega
  have CAP := hid_ hc
  go_upto_if 22 with fail
  go_cut [9] (fun u wq => ∃ m : Nat, m = (n + if b then 1 else 0) ∧ u = .int .i64 m ∧ wq = w2)
  case first =>
    cases b with
    | false =>
      go_wp2
      go_meet
      case rel => exact ⟨n, by simp, rfl, rfl⟩
    | true =>
      have := hlt rfl
      go_wp2
      go_meet
      case rel =>
        refine ⟨n + 1, by simp, ?_, rfl⟩
        go_num
  case rest =>
    obtain ⟨m, hm7, rfl, rfl⟩ := hcut
    have hml : m ≤ L.length := by
      cases b with
      | false => simp at hm7; omega
      | true => have := hlt rfl; simp at hm7; omega
    rw [← hm7] at HPUT
    clear hm7 hlt
    obtain ⟨A5, hA5⟩ : ∃ A5, (if c = m then A else Option.map (fun x => x.add (m * 2)) A) = A5 := ⟨_, rfl⟩
    have R1 := hid_ (H.out.upto hpl)
    have R2 := H.out.cut hml CAP.out
    rw [hA5] at R2
    have R2' := hid_ R2
    clear R2
    have htl : (L.take n).length = n := by simp; omega
    have hdl : (L.drop m).length = L.length - m := by simp
    have hi3 : (0 : Int) ≤ (m : Int) := Int.natCast_nonneg _
    have hi4 : (m : Int) ≤ (L.length : Int) := by omega
    have hi5 : (m : Int) ≤ (c : Int) := by omega
    go_upto_region 7 with fail
    have c0 : wc.cell? ⟨w.heap.size, 0, none⟩ = some (.string p.1) := B0.out.cell' rfl
    have c1 : wc.cell? ⟨w.heap.size, 1, none⟩ = some (.string p.2) := B0.out.cell' rfl
    have hS0 : (fun w' : World => Fr none_ wc w') wc.drew := (Fr.refl none_ wc).drew
    refine wp_region_U (m := 14) (S := fun w' : World => Fr none_ wc w') (by kernel_rfl) ?_
    refine wpAnyU_take2 (i := 0) (v := _) rfl (by kernel_rfl) (by kernel_rfl) (by kernel_rfl) (by kernel_rfl) (fun _ _ _ h => h) (.inl ⟨by kernel_rfl, fun w' hS => by have s_c0 := cellFr c0 hS; have s_c1 := cellFr c1 hS; go_simp; rfl⟩) hS0 ?_
    refine wpAnyU_take2 (i := 1) (v := _) rfl (by kernel_rfl) (by kernel_rfl) (by kernel_rfl) (by kernel_rfl) (fun _ _ _ h => h) (.inl ⟨by kernel_rfl, fun w' hS => by have s_c0 := cellFr c0 hS; have s_c1 := cellFr c1 hS; go_simp; rfl⟩) hS0 ?_
    refine wpAnyU_take2 (i := 2) (v := _) rfl (by kernel_rfl) (by kernel_rfl) (by kernel_rfl) (by kernel_rfl) (fun _ _ _ h => h) (.inl ⟨by kernel_rfl, fun w' hS => by have s_c0 := cellFr c0 hS; have s_c1 := cellFr c1 hS; go_simp; rfl⟩) hS0 ?_
    refine wpAnyU_take2 (i := 3) (v := _) rfl (by kernel_rfl) (by kernel_rfl) (by kernel_rfl) (by kernel_rfl) (fun _ _ _ h => h) (.inl ⟨by kernel_rfl, fun w' hS => by have s_c0 := cellFr c0 hS; have s_c1 := cellFr c1 hS; go_simp; rfl⟩) hS0 ?_
    refine wpAnyU_take2 (i := 5) (v := _) rfl (by kernel_rfl) (by kernel_rfl) (by kernel_rfl) (by kernel_rfl) (fun _ _ _ h => h) (.inl ⟨by kernel_rfl, fun w' hS => by have s_c0 := cellFr c0 hS; have s_c1 := cellFr c1 hS; go_simp; rfl⟩) hS0 ?_
    refine wpAnyU_take2 (i := 6) (v := _) rfl (by kernel_rfl) (by kernel_rfl) (by kernel_rfl) (by kernel_rfl) (fun _ _ _ h => h) (.inl ⟨by kernel_rfl, fun w' hS => by have s_c0 := cellFr c0 hS; have s_c1 := cellFr c1 hS; go_simp; rfl⟩) hS0 ?_
    refine wpAnyU_take2 (i := 7) (v := _) rfl (by kernel_rfl) (by kernel_rfl) (by kernel_rfl) (by kernel_rfl) (fun _ _ _ h => h) (.inl ⟨by kernel_rfl, fun w' hS => by have s_c0 := cellFr c0 hS; have s_c1 := cellFr c1 hS; go_simp; rfl⟩) hS0 ?_
    refine wpAnyU_take2 (i := 10) (v := _) rfl (by kernel_rfl) (by kernel_rfl) (by kernel_rfl) (by kernel_rfl) (fun _ _ _ h => h) (.inl ⟨by kernel_rfl, fun w' hS => by have s_c0 := cellFr c0 hS; have s_c1 := cellFr c1 hS; go_simp; rfl⟩) hS0 ?_
    refine wpAnyU_one7 (i := 4) rfl (by kernel_rfl) (by kernel_rfl) ?_
    go_simp
    refine ⟨(Fr.refl none_ wc).drew.alloc _, ?_⟩
    refine wpAnyU_one7 (i := 8) rfl (by kernel_rfl) (by kernel_rfl) ?_
    go_simp
    refine ⟨((Fr.refl none_ wc).drew.alloc _).alloc _, ?_⟩
    refine wpAnyU_one7 (i := 9) rfl (by kernel_rfl) (by kernel_rfl) ?_
    go_simp
    obtain ⟨w3, hw_w3⟩ : ∃ z, z = ((wc.alloc (.cells #[.string p.1, .string p.2] 62)).alloc (.cells #[.slice A n c, .slice (some ⟨wc.heap.size, 0, none⟩) 1 1, .slice A5 (L.length - m) (c - m)] 36)).drew := ⟨_, rfl⟩
    have f3 : Fr none_ wc w3 := by rw [hw_w3]; repeat (first | exact Fr.refl none_ wc | apply Fr.drew | apply Fr.alloc)
    have B3 := (Blk.new7 (w := (wc.alloc (.cells #[.string p.1, .string p.2] 62))) (b := wc.heap.size + 1) 36 #[.slice A n c, .slice (some ⟨wc.heap.size, 0, none⟩) 1 1, .slice A5 (L.length - m) (c - m)] (by simp)).drew
    rw [← hw_w3] at B3
    have E3 : Reads w3 2 (some ⟨wc.heap.size, 0, none⟩) 1 (rwFlat [p]) := by
      rw [hw_w3, rwFlat_single]
      exact ((reads_new wc 62 [.string p.1, .string p.2] wc.heap.size rfl).alloc _).drew
    rw [← hw_w3]
    clear hw_w3 c0 c1
    refine (list_ok (wc.heap.size + 1) [(A, c, L.take n), (some ⟨wc.heap.size, 0, none⟩, 1, [p]), (A5, c - m, L.drop m)] w3 ?_ ?_ ?_ ?_).mono ?_
    · intro i x hx
      match i, hx with
      | 0, hx => cases hx; rw [B3.cell]; show some (Value.slice A n c) = some (Value.slice (A) (L.take n).length (c)); rw [htl]
      | 1, hx => cases hx; rw [B3.cell]; show some (Value.slice (some ⟨wc.heap.size, 0, none⟩) 1 1) = some (Value.slice (some ⟨wc.heap.size, 0, none⟩) ([p]).length (1)); rfl
      | 2, hx => cases hx; rw [B3.cell]; show some (Value.slice A5 (L.length - m) (c - m)) = some (Value.slice (A5) (L.drop m).length (c - m)); rw [hdl]
      | k + 3, hx => simp at hx
    · intro x hx
      simp only [List.mem_cons, List.not_mem_nil, or_false] at hx
      rcases hx with rfl | rfl | rfl
      · show Reads w3 2 (A) (L.take n).length (rwFlat (L.take n))
        rw [htl, show rwFlat (L.take n) = (rwFlat L).take (n * 2) from rwFlat_take L n]
        exact R1.out.none_fr f3
      · show Reads w3 2 (some ⟨wc.heap.size, 0, none⟩) ([p]).length (rwFlat ([p]))
        exact E3
      · show Reads w3 2 (A5) (L.drop m).length (rwFlat (L.drop m))
        rw [hdl, rwFlat_drop]
        exact R2'.out.none_fr f3
    · simp [ptRL]; omega
    · simp
    rintro e w4 ⟨A', c', rfl, ho, hf4⟩
    rw [ptR_three, show (L.take n ++ [p] ++ L.drop m) = putR L p from HPUT.out.symm] at ho ⊢
    have hs3 := f3.size
    have hs0 := F0.out.size
    have O4 := hid_ (own_base ho (by omega : w.heap.size ≤ w3.heap.size))
    have F3 : Hid (Fr none_ wc w4) := hid_ (f3.then_none hf4)
    have F4 := hid_ (F0.out.then_none F3.out)
    clear ho hf4 B3 E3 f3 htl hdl
    refine ⟨F3.out, ?_⟩
    refine wpAnyU_one7 (i := 11) rfl (by kernel_rfl) (by kernel_rfl) ?_
    go_simp
    refine ⟨F3.out, ?_⟩
    refine wpAnyU_one7 (i := 12) rfl (by kernel_rfl) (by kernel_rfl) ?_
    go_simp
    refine ⟨F3.out, ?_⟩
    refine wpAnyU_one7 (i := 13) rfl (by kernel_rfl) (by kernel_rfl) ?_
    go_simp
    refine ⟨F3.out, ?_⟩
    refine wpAnyU_done (by kernel_rfl) ?_ _
    go_wp2
    go_ret3
    exact .inl ⟨HF.out, A', c', by rw [HB.out]; rfl, O4.out, F4.out⟩

def DropPost (L : List Rw) (key : ByteArray) (w : World) (e : Ending) (w' : World) : Prop :=
  ∃ A c, e = .returned (.tuple #[.slice A (dropR L key).length c, .bool (atR L key)]) ∧ w'.ownsRow w.heap.size 62 2 (.slice A (dropR L key).length c) (dropR L key).length (rwFlat (dropR L key)) ∧ Fr none_ w w'
set_option maxHeartbeats 4000000 in
theorem dropR_ok (L : List Rw) (A : Option Addr) (c : Nat) (key : ByteArray) (w : World) (h : Reads w 2 A L.length (rwFlat L)) (ho : RwsOk L) (hc : L.length ≤ c) (hm : c ≤ maxLen) (hk : SzOk key) :
    Calls Try.prog 110 #[.slice A L.length c, .string key] w (DropPost L key w) := by
  have HK := hid_ hk
  have HO := hid_ ho
  have hpl := plR_le L key
  have h3 := ho.1
  unfold maxLen at hm
  have H := hid_ h
  clear h ho hk
  go_enter Try.func110, Try.ntmps110
  go_wp2_with fail
  refine (findR_ok L A c key w H.out HO.out HK.out).mono ?_
  rintro e w1 ⟨rfl, hf⟩
  replace H := hid_ (H.out.none_fr hf)
  have F0 := hid_ hf
  clear hf
  obtain ⟨n, hn⟩ : ∃ n, n = plR L key := ⟨_, rfl⟩
  obtain ⟨b, hb⟩ : ∃ b, b = atR L key := ⟨_, rfl⟩
  rw [← hn, ← hb]
  rw [← hn] at hpl
  have hlt : b = true → n < L.length := fun h => by rw [hn]; exact atR_lt (by rw [← hb]; exact h)
  have HD : Hid (dropR L key = if b then L.take n ++ L.drop (n + 1) else L) := hid_ (by rw [dropR, ← hn, ← hb])
  have HB := hid_ hb
  have CAP := hid_ hc
  clear hn hb
  have hi0 : (0 : Int) ≤ (n : Int) := Int.natCast_nonneg _
  have hs0 := F0.out.size
  cases b with
  | false =>
    have HD' : Hid (dropR L key = L) := hid_ (by rw [HD.out]; rfl)
    clear hlt
    go_wp2_with fail
    have hB := Blk.new w1 36 #[.slice A L.length c]
    refine (list_ok (w1.heap.size) [(A, c, L)] _ ?_ ?_ ?_ ?_).mono ?_
    · intro i x hx
      match i, hx with
      | 0, hx => cases hx; rw [hB.cell]; show some (Value.slice A L.length c) = some (Value.slice (A) (L).length (c)); rfl
      | k + 1, hx => simp at hx
    · intro x hx
      simp only [List.mem_cons, List.not_mem_nil, or_false] at hx
      rcases hx with rfl
      · show Reads (w1.alloc _) 2 (A) (L).length (rwFlat (L))
        exact H.out.alloc _
    · simp [ptRL]; omega
    · simp
    rintro e w4 ⟨A', c', rfl, hown, hf4⟩
    rw [ptR_one] at hown ⊢
    have O4 := hid_ (own_base hown (by simp; omega : w.heap.size ≤ (w1.alloc (.cells #[.slice A L.length c] 36)).heap.size))
    have F4 := hid_ (((F0.out.alloc _).then_none hf4))
    clear hown hf4 hB
    go_wp2
    go_ret2
    refine ⟨A', c', ?_, ?_, F4.out⟩
    · rw [HD'.out, HB.out]; rfl
    · rw [HD'.out]; exact O4.out
  | true =>
    have hnl := hlt rfl
    have HD' : Hid (dropR L key = L.take n ++ L.drop (n + 1)) := hid_ (by rw [HD.out]; rfl)
    obtain ⟨m, hm7⟩ : ∃ m, m = n + 1 := ⟨_, rfl⟩
    have hml : m ≤ L.length := by omega
    have hwr : IntKind.i64.wrap ((n : Int) + 1) = (m : Int) := by rw [hm7]; exact IntWalk.i64_in _ (by omega)
    rw [← hm7] at HD'
    clear hlt hm7
    obtain ⟨A5, hA5⟩ : ∃ A5, (if c = m then A else Option.map (fun x => x.add (m * 2)) A) = A5 := ⟨_, rfl⟩
    have R1 := hid_ (H.out.upto hpl)
    have R2 := H.out.cut hml CAP.out
    rw [hA5] at R2
    have R2' := hid_ R2
    clear R2
    have htl : (L.take n).length = n := by simp; omega
    have hdl : (L.drop m).length = L.length - m := by simp
    have hi1 : (n : Int) ≤ (L.length : Int) := by omega
    have hi2 : (n : Int) ≤ (c : Int) := by omega
    have hi3 : (0 : Int) ≤ (m : Int) := Int.natCast_nonneg _
    have hi4 : (m : Int) ≤ (L.length : Int) := by omega
    have hi5 : (m : Int) ≤ (c : Int) := by omega
    have hcl : (L.length : Int) ≤ (c : Int) := by omega
    go_upto_region 4 with fail
    have hS0 : (fun w' : World => Fr none_ w1 w') w1.drew := (Fr.refl none_ w1).drew
    refine wp_region_U (m := 11) (S := fun w' : World => Fr none_ w1 w') (by kernel_rfl) ?_
    refine wpAnyU_take2 (i := 0) (v := _) rfl (by kernel_rfl) (by kernel_rfl) (by kernel_rfl) (by kernel_rfl) (fun _ _ _ h => h) (.inl ⟨by kernel_rfl, fun w' hS => by skip; go_simp; rfl⟩) hS0 ?_
    refine wpAnyU_take2 (i := 1) (v := _) rfl (by kernel_rfl) (by kernel_rfl) (by kernel_rfl) (by kernel_rfl) (fun _ _ _ h => h) (.inl ⟨by kernel_rfl, fun w' hS => by skip; go_simp; rfl⟩) hS0 ?_
    refine wpAnyU_take2 (i := 2) (v := _) rfl (by kernel_rfl) (by kernel_rfl) (by kernel_rfl) (by kernel_rfl) (fun _ _ _ h => h) (.inl ⟨by kernel_rfl, fun w' hS => by skip; go_simp; rfl⟩) hS0 ?_
    refine wpAnyU_take2 (i := 3) (v := _) rfl (by kernel_rfl) (by kernel_rfl) (by kernel_rfl) (by kernel_rfl) (fun _ _ _ h => h) (.inl ⟨by kernel_rfl, fun w' hS => by skip; go_simp; rfl⟩) hS0 ?_
    refine wpAnyU_take2 (i := 4) (v := _) rfl (by kernel_rfl) (by kernel_rfl) (by kernel_rfl) (by kernel_rfl) (fun _ _ _ h => h) (.inl ⟨by kernel_rfl, fun w' hS => by skip; go_simp; rfl⟩) hS0 ?_
    refine wpAnyU_take2 (i := 5) (v := _) rfl (by kernel_rfl) (by kernel_rfl) (by kernel_rfl) (by kernel_rfl) (fun _ _ _ h => h) (.inl ⟨by kernel_rfl, fun w' hS => by skip; go_simp; rfl⟩) hS0 ?_
    refine wpAnyU_take2 (i := 6) (v := _) rfl (by kernel_rfl) (by kernel_rfl) (by kernel_rfl) (by kernel_rfl) (fun _ _ _ h => h) (.inl ⟨by kernel_rfl, fun w' hS => by skip; go_simp; rfl⟩) hS0 ?_
    refine wpAnyU_one7 (i := 7) rfl (by kernel_rfl) (by kernel_rfl) ?_
    go_simp
    refine ⟨(Fr.refl none_ w1).drew.alloc _, ?_⟩
    refine wpAnyU_one7 (i := 8) rfl (by kernel_rfl) (by kernel_rfl) ?_
    go_simp
    obtain ⟨w3, hw_w3⟩ : ∃ z, z = (w1.alloc (.cells #[.slice A n c, .slice A5 (L.length - m) (c - m)] 36)).drew := ⟨_, rfl⟩
    have f3 : Fr none_ w1 w3 := by rw [hw_w3]; repeat (first | exact Fr.refl none_ w1 | apply Fr.drew | apply Fr.alloc)
    have B3 := (Blk.new7 (w := w1) (b := w1.heap.size) 36 #[.slice A n c, .slice A5 (L.length - m) (c - m)] (by simp)).drew
    rw [← hw_w3] at B3
    rw [← hw_w3]
    clear hw_w3
    refine (list_ok (w1.heap.size) [(A, c, L.take n), (A5, c - m, L.drop m)] w3 ?_ ?_ ?_ ?_).mono ?_
    · intro i x hx
      match i, hx with
      | 0, hx => cases hx; rw [B3.cell]; show some (Value.slice A n c) = some (Value.slice (A) (L.take n).length (c)); rw [htl]
      | 1, hx => cases hx; rw [B3.cell]; show some (Value.slice A5 (L.length - m) (c - m)) = some (Value.slice (A5) (L.drop m).length (c - m)); rw [hdl]
      | k + 2, hx => simp at hx
    · intro x hx
      simp only [List.mem_cons, List.not_mem_nil, or_false] at hx
      rcases hx with rfl | rfl
      · show Reads w3 2 (A) (L.take n).length (rwFlat (L.take n))
        rw [htl, show rwFlat (L.take n) = (rwFlat L).take (n * 2) from rwFlat_take L n]
        exact R1.out.none_fr f3
      · show Reads w3 2 (A5) (L.drop m).length (rwFlat (L.drop m))
        rw [hdl, rwFlat_drop]
        exact R2'.out.none_fr f3
    · simp [ptRL]; omega
    · simp
    rintro e w4 ⟨A', c', rfl, ho, hf4⟩
    rw [ptR_two, show L.take n ++ L.drop m = dropR L key from HD'.out.symm] at ho ⊢
    have hs3 := f3.size
    have O4 := hid_ (own_base ho (by omega : w.heap.size ≤ w3.heap.size))
    have F3 : Hid (Fr none_ w1 w4) := hid_ (f3.then_none hf4)
    have F4 := hid_ (F0.out.then_none F3.out)
    clear ho hf4 B3 f3 htl hdl
    refine ⟨F3.out, ?_⟩
    refine wpAnyU_one7 (i := 9) rfl (by kernel_rfl) (by kernel_rfl) ?_
    go_simp
    refine ⟨F3.out, ?_⟩
    refine wpAnyU_one7 (i := 10) rfl (by kernel_rfl) (by kernel_rfl) ?_
    go_simp
    refine ⟨F3.out, ?_⟩
    refine wpAnyU_done (by kernel_rfl) ?_ _
    go_wp2
    go_ret2
    exact ⟨A', c', by rw [← HB.out]; rfl, O4.out, F4.out⟩

def CutPost (L : List Rw) (key : ByteArray) (w : World) (e : Ending) (w' : World) : Prop :=
  ∃ A c B n d, e = .returned (.tuple #[.slice A (L.take (plR L key)).length c, .slice B n d]) ∧ w'.ownsRow w.heap.size 62 2 (.slice A (L.take (plR L key)).length c) (L.take (plR L key)).length (rwFlat (L.take (plR L key))) ∧ Fr none_ w w'
set_option maxHeartbeats 8000000 in
theorem cutR_ok (L : List Rw) (A : Option Addr) (c : Nat) (key : ByteArray) (w : World) (h : Reads w 2 A L.length (rwFlat L)) (ho : RwsOk L) (hc : L.length ≤ c) (hm : c ≤ maxLen) (hk : SzOk key) :
    Calls Try.prog 111 #[.slice A L.length c, .string key] w (CutPost L key w) := by
  have HK := hid_ hk
  have HO := hid_ ho
  have hpl := plR_le L key
  have h3 := ho.1
  unfold maxLen at hm
  have H := hid_ h
  clear h ho hk
  go_enter Try.func111, Try.ntmps111
  go_wp2_with fail
  refine (placeR_ok L A c key w H.out HO.out HK.out).mono ?_
  rintro e w1 ⟨rfl, hf⟩
  replace H := hid_ (H.out.none_fr hf)
  have F0 := hid_ hf
  clear hf
  obtain ⟨n, hn⟩ : ∃ n, n = plR L key := ⟨_, rfl⟩
  rw [← hn]
  rw [← hn] at hpl
  have HN := hid_ hn
  have CAP := hid_ hc
  clear hn
  have hi0 : (0 : Int) ≤ (n : Int) := Int.natCast_nonneg _
  have hs0 := F0.out.size
  obtain ⟨A5, hA5⟩ : ∃ A5, (if c = n then A else Option.map (fun x => x.add (n * 2)) A) = A5 := ⟨_, rfl⟩
  have R1 := hid_ (H.out.upto hpl)
  have R2 := H.out.cut hpl CAP.out
  rw [hA5] at R2
  have R2' := hid_ R2
  clear R2
  have htl : (L.take n).length = n := by simp; omega
  have hdl : (L.drop n).length = L.length - n := by simp
  have hi1 : (n : Int) ≤ (L.length : Int) := by omega
  have hi2 : (n : Int) ≤ (c : Int) := by omega
  have hcl : (L.length : Int) ≤ (c : Int) := by omega
  go_upto_region 2 with fail
  have hS0 : (fun w' : World => Fr none_ w1 w') w1.drew := (Fr.refl none_ w1).drew
  refine wp_region_U (m := 12) (S := fun w' : World => Fr none_ w1 w') (by kernel_rfl) ?_
  refine wpAnyU_take2 (i := 0) (v := _) rfl (by kernel_rfl) (by kernel_rfl) (by kernel_rfl) (by kernel_rfl) (fun _ _ _ h => h) (.inl ⟨by kernel_rfl, fun w' hS => by skip; go_simp; rfl⟩) hS0 ?_
  refine wpAnyU_take2 (i := 1) (v := _) rfl (by kernel_rfl) (by kernel_rfl) (by kernel_rfl) (by kernel_rfl) (fun _ _ _ h => h) (.inl ⟨by kernel_rfl, fun w' hS => by skip; go_simp; rfl⟩) hS0 ?_
  refine wpAnyU_take2 (i := 2) (v := _) rfl (by kernel_rfl) (by kernel_rfl) (by kernel_rfl) (by kernel_rfl) (fun _ _ _ h => h) (.inl ⟨by kernel_rfl, fun w' hS => by skip; go_simp; rfl⟩) hS0 ?_
  refine wpAnyU_take2 (i := 5) (v := _) rfl (by kernel_rfl) (by kernel_rfl) (by kernel_rfl) (by kernel_rfl) (fun _ _ _ h => h) (.inl ⟨by kernel_rfl, fun w' hS => by skip; go_simp; rfl⟩) hS0 ?_
  refine wpAnyU_take2 (i := 6) (v := _) rfl (by kernel_rfl) (by kernel_rfl) (by kernel_rfl) (by kernel_rfl) (fun _ _ _ h => h) (.inl ⟨by kernel_rfl, fun w' hS => by skip; go_simp; rfl⟩) hS0 ?_
  refine wpAnyU_take2 (i := 7) (v := _) rfl (by kernel_rfl) (by kernel_rfl) (by kernel_rfl) (by kernel_rfl) (fun _ _ _ h => h) (.inl ⟨by kernel_rfl, fun w' hS => by skip; go_simp; rfl⟩) hS0 ?_
  refine wpAnyU_two7 (i := 3) (j := 8) rfl rfl (by kernel_rfl) (by kernel_rfl) (by kernel_rfl) ?_ ?_
  · go_simp
    refine ⟨(Fr.refl none_ w1).drew.alloc _, ?_⟩
    refine wpAnyU_two7 (i := 4) (j := 8) rfl rfl (by kernel_rfl) (by kernel_rfl) (by kernel_rfl) ?_ ?_
    · go_simp
      obtain ⟨w3, hw_w3⟩ : ∃ z, z = (w1.alloc (.cells #[.slice A n c] 36)).drew := ⟨_, rfl⟩
      have f3 : Fr none_ w1 w3 := by rw [hw_w3]; repeat (first | exact Fr.refl none_ w1 | apply Fr.drew | apply Fr.alloc)
      have B3 := (Blk.new7 (w := w1) (b := w1.heap.size) 36 #[.slice A n c] rfl).drew
      rw [← hw_w3] at B3
      rw [← hw_w3]
      clear hw_w3
      refine (list_ok (w1.heap.size) [(A, c, L.take n)] w3 ?_ ?_ ?_ ?_).mono ?_
      · intro i x hx
        match i, hx with
        | 0, hx => cases hx; rw [B3.cell]; show some (Value.slice A n c) = some (Value.slice (A) (L.take n).length (c)); rw [htl]
        | k + 1, hx => simp at hx
      · intro x hx
        simp only [List.mem_cons, List.not_mem_nil, or_false] at hx
        rcases hx with rfl
        · show Reads w3 2 (A) (L.take n).length (rwFlat (L.take n))
          rw [htl, show rwFlat (L.take n) = (rwFlat L).take (n * 2) from rwFlat_take L n]
          exact R1.out.none_fr f3
      · simp [ptRL]; omega
      · simp
      rintro e w4 ⟨A', c', rfl, ho, hf4⟩
      rw [ptR_one] at ho ⊢
      have hs3 := f3.size
      have O4 := hid_ (own_base ho (by omega : w.heap.size ≤ w3.heap.size))
      have F3 : Hid (Fr none_ w1 w4) := hid_ (f3.then_none hf4)
      clear ho hf4 B3
      refine ⟨F3.out, ?_⟩
      refine wpAnyU_one7 (i := 8) rfl (by kernel_rfl) (by kernel_rfl) ?_
      go_simp
      obtain ⟨w5, hw5⟩ : ∃ z, z = w4.alloc (.cells #[.slice A5 (L.length - n) (c - n)] 36) := ⟨_, rfl⟩
      have F5 : Hid (Fr none_ w1 w5) := hid_ (by rw [hw5]; exact F3.out.alloc _)
      have O5 := hid_ (own_none O4.out (by rw [hw5]; exact (Fr.refl none_ w4).alloc (.cells #[.slice A5 (L.length - n) (c - n)] 36) : Fr none_ w4 w5))
      have B5 : Hid (Blk w5 w4.heap.size 36 #[.slice A5 (L.length - n) (c - n)]) := hid_ (by rw [hw5]; exact Blk.new w4 _ _)
      rw [← hw5]
      clear hw5
      refine ⟨F5.out, ?_⟩
      refine wpAnyU_one7 (i := 9) rfl (by kernel_rfl) (by kernel_rfl) ?_
      go_simp
      refine (list_ok (w4.heap.size) [(A5, c - n, L.drop n)] w5 ?_ ?_ ?_ ?_).mono ?_
      · intro i x hx
        match i, hx with
        | 0, hx => cases hx; rw [B5.out.cell]; show some (Value.slice A5 (L.length - n) (c - n)) = some (Value.slice (A5) (L.drop n).length (c - n)); rw [hdl]
        | k + 1, hx => simp at hx
      · intro x hx
        simp only [List.mem_cons, List.not_mem_nil, or_false] at hx
        rcases hx with rfl
        · show Reads w5 2 (A5) (L.drop n).length (rwFlat (L.drop n))
          rw [hdl, rwFlat_drop]
          exact R2'.out.none_fr F5.out
      · simp [ptRL]; omega
      · simp
      rintro e w6 ⟨B', d', rfl, ho6, hf6⟩
      have O6 := hid_ (own_none O5.out hf6)
      have F6 := hid_ (F5.out.then_none hf6)
      have F7 := hid_ (F0.out.then_none F6.out)
      clear ho6 hf6 B5
      refine ⟨F6.out, ?_⟩
      refine wpAnyU_one7 (i := 10) rfl (by kernel_rfl) (by kernel_rfl) ?_
      go_simp
      refine ⟨F6.out, ?_⟩
      refine wpAnyU_one7 (i := 11) rfl (by kernel_rfl) (by kernel_rfl) ?_
      go_simp
      refine ⟨F6.out, ?_⟩
      refine wpAnyU_done (by kernel_rfl) ?_ _
      go_wp2
      go_ret2
      exact ⟨A', c', B', _, d', by rw [← HN.out, htl]; rfl, by rw [← HN.out]; exact O6.out, F7.out⟩
    · go_simp
      refine ⟨((Fr.refl none_ w1).drew.alloc _).alloc _, ?_⟩
      refine wpAnyU_one7 (i := 4) rfl (by kernel_rfl) (by kernel_rfl) ?_
      go_simp
      obtain ⟨w3, hw_w3⟩ : ∃ z, z = ((w1.alloc (.cells #[.slice A n c] 36)).alloc (.cells #[.slice A5 (L.length - n) (c - n)] 36)).drew := ⟨_, rfl⟩
      have f3 : Fr none_ w1 w3 := by rw [hw_w3]; repeat (first | exact Fr.refl none_ w1 | apply Fr.drew | apply Fr.alloc)
      have B3 := ((Blk.new7 (w := w1) (b := w1.heap.size) 36 #[.slice A n c] rfl).alloc (.cells #[.slice A5 (L.length - n) (c - n)] 36)).drew
      have B8 := (Blk.new7 (w := w1.alloc (.cells #[.slice A n c] 36)) (b := w1.heap.size + 1) 36 #[.slice A5 (L.length - n) (c - n)] (by simp)).drew
      rw [← hw_w3] at B3 B8
      rw [← hw_w3]
      clear hw_w3
      refine (list_ok (w1.heap.size) [(A, c, L.take n)] w3 ?_ ?_ ?_ ?_).mono ?_
      · intro i x hx
        match i, hx with
        | 0, hx => cases hx; rw [B3.cell]; show some (Value.slice A n c) = some (Value.slice (A) (L.take n).length (c)); rw [htl]
        | k + 1, hx => simp at hx
      · intro x hx
        simp only [List.mem_cons, List.not_mem_nil, or_false] at hx
        rcases hx with rfl
        · show Reads w3 2 (A) (L.take n).length (rwFlat (L.take n))
          rw [htl, show rwFlat (L.take n) = (rwFlat L).take (n * 2) from rwFlat_take L n]
          exact R1.out.none_fr f3
      · simp [ptRL]; omega
      · simp
      rintro e w4 ⟨A', c', rfl, ho, hf4⟩
      rw [ptR_one] at ho ⊢
      have hs3 := f3.size
      have O4 := hid_ (own_base ho (by omega : w.heap.size ≤ w3.heap.size))
      have F3 : Hid (Fr none_ w1 w4) := hid_ (f3.then_none hf4)
      have F5 := F3
      have O5 := O4
      have B5 := hid_ (B8.fr hf4 id)
      clear ho hf4 B3 B8
      refine ⟨F3.out, ?_⟩
      refine wpAnyU_one7 (i := 9) rfl (by kernel_rfl) (by kernel_rfl) ?_
      go_simp
      refine (list_ok (w1.heap.size + 1) [(A5, c - n, L.drop n)] w4 ?_ ?_ ?_ ?_).mono ?_
      · intro i x hx
        match i, hx with
        | 0, hx => cases hx; rw [B5.out.cell]; show some (Value.slice A5 (L.length - n) (c - n)) = some (Value.slice (A5) (L.drop n).length (c - n)); rw [hdl]
        | k + 1, hx => simp at hx
      · intro x hx
        simp only [List.mem_cons, List.not_mem_nil, or_false] at hx
        rcases hx with rfl
        · show Reads w4 2 (A5) (L.drop n).length (rwFlat (L.drop n))
          rw [hdl, rwFlat_drop]
          exact R2'.out.none_fr F5.out
      · simp [ptRL]; omega
      · simp
      rintro e w6 ⟨B', d', rfl, ho6, hf6⟩
      have O6 := hid_ (own_none O5.out hf6)
      have F6 := hid_ (F5.out.then_none hf6)
      have F7 := hid_ (F0.out.then_none F6.out)
      clear ho6 hf6 B5
      refine ⟨F6.out, ?_⟩
      refine wpAnyU_one7 (i := 10) rfl (by kernel_rfl) (by kernel_rfl) ?_
      go_simp
      refine ⟨F6.out, ?_⟩
      refine wpAnyU_one7 (i := 11) rfl (by kernel_rfl) (by kernel_rfl) ?_
      go_simp
      refine ⟨F6.out, ?_⟩
      refine wpAnyU_done (by kernel_rfl) ?_ _
      go_wp2
      go_ret2
      exact ⟨A', c', B', _, d', by rw [← HN.out, htl]; rfl, by rw [← HN.out]; exact O6.out, F7.out⟩
  · go_simp
    refine ⟨(Fr.refl none_ w1).drew.alloc _, ?_⟩
    refine wpAnyU_one7 (i := 3) rfl (by kernel_rfl) (by kernel_rfl) ?_
    go_simp
    refine ⟨((Fr.refl none_ w1).drew.alloc _).alloc _, ?_⟩
    refine wpAnyU_one7 (i := 4) rfl (by kernel_rfl) (by kernel_rfl) ?_
    go_simp
    obtain ⟨w3, hw_w3⟩ : ∃ z, z = ((w1.alloc (.cells #[.slice A5 (L.length - n) (c - n)] 36)).alloc (.cells #[.slice A n c] 36)).drew := ⟨_, rfl⟩
    have f3 : Fr none_ w1 w3 := by rw [hw_w3]; repeat (first | exact Fr.refl none_ w1 | apply Fr.drew | apply Fr.alloc)
    have B8 := ((Blk.new7 (w := w1) (b := w1.heap.size) 36 #[.slice A5 (L.length - n) (c - n)] rfl).alloc (.cells #[.slice A n c] 36)).drew
    have B3 := (Blk.new7 (w := w1.alloc (.cells #[.slice A5 (L.length - n) (c - n)] 36)) (b := w1.heap.size + 1) 36 #[.slice A n c] (by simp)).drew
    rw [← hw_w3] at B3 B8
    rw [← hw_w3]
    clear hw_w3
    refine (list_ok (w1.heap.size + 1) [(A, c, L.take n)] w3 ?_ ?_ ?_ ?_).mono ?_
    · intro i x hx
      match i, hx with
      | 0, hx => cases hx; rw [B3.cell]; show some (Value.slice A n c) = some (Value.slice (A) (L.take n).length (c)); rw [htl]
      | k + 1, hx => simp at hx
    · intro x hx
      simp only [List.mem_cons, List.not_mem_nil, or_false] at hx
      rcases hx with rfl
      · show Reads w3 2 (A) (L.take n).length (rwFlat (L.take n))
        rw [htl, show rwFlat (L.take n) = (rwFlat L).take (n * 2) from rwFlat_take L n]
        exact R1.out.none_fr f3
    · simp [ptRL]; omega
    · simp
    rintro e w4 ⟨A', c', rfl, ho, hf4⟩
    rw [ptR_one] at ho ⊢
    have hs3 := f3.size
    have O4 := hid_ (own_base ho (by omega : w.heap.size ≤ w3.heap.size))
    have F3 : Hid (Fr none_ w1 w4) := hid_ (f3.then_none hf4)
    have F5 := F3
    have O5 := O4
    have B5 := hid_ (B8.fr hf4 id)
    clear ho hf4 B3 B8
    refine ⟨F3.out, ?_⟩
    refine wpAnyU_one7 (i := 9) rfl (by kernel_rfl) (by kernel_rfl) ?_
    go_simp
    refine (list_ok (w1.heap.size) [(A5, c - n, L.drop n)] w4 ?_ ?_ ?_ ?_).mono ?_
    · intro i x hx
      match i, hx with
      | 0, hx => cases hx; rw [B5.out.cell]; show some (Value.slice A5 (L.length - n) (c - n)) = some (Value.slice (A5) (L.drop n).length (c - n)); rw [hdl]
      | k + 1, hx => simp at hx
    · intro x hx
      simp only [List.mem_cons, List.not_mem_nil, or_false] at hx
      rcases hx with rfl
      · show Reads w4 2 (A5) (L.drop n).length (rwFlat (L.drop n))
        rw [hdl, rwFlat_drop]
        exact R2'.out.none_fr F5.out
    · simp [ptRL]; omega
    · simp
    rintro e w6 ⟨B', d', rfl, ho6, hf6⟩
    have O6 := hid_ (own_none O5.out hf6)
    have F6 := hid_ (F5.out.then_none hf6)
    have F7 := hid_ (F0.out.then_none F6.out)
    clear ho6 hf6 B5
    refine ⟨F6.out, ?_⟩
    refine wpAnyU_one7 (i := 10) rfl (by kernel_rfl) (by kernel_rfl) ?_
    go_simp
    refine ⟨F6.out, ?_⟩
    refine wpAnyU_one7 (i := 11) rfl (by kernel_rfl) (by kernel_rfl) ?_
    go_simp
    refine ⟨F6.out, ?_⟩
    refine wpAnyU_done (by kernel_rfl) ?_ _
    go_wp2
    go_ret2
    exact ⟨A', c', B', _, d', by rw [← HN.out, htl]; rfl, by rw [← HN.out]; exact O6.out, F7.out⟩

/-- May two lists of rows stand one behind the other? -/
def joinR (a b : List Rw) : Bool :=
  match a[a.length - 1]?, b[0]? with
  | some p, some q => ltS p.1 q.1
  | _, _ => true
def JoinRPost (a b : List Rw) (w : World) (e : Ending) (w' : World) : Prop :=
  (joinR a b = true ∧ ∃ A c, e = .returned (.tuple #[.slice A (a ++ b).length c, .nilIface]) ∧ w'.ownsRow w.heap.size 62 2 (.slice A (a ++ b).length c) (a ++ b).length (rwFlat (a ++ b)) ∧ Fr none_ w w') ∨
  (joinR a b = false ∧ e = .returned (.tuple #[.slice none 0 0, errV 2]) ∧ Fr none_ w w')
theorem joinR_some {a b : List Rw} {p q : Rw} (h : a[a.length - 1]? = some p) (h' : b[0]? = some q) : joinR a b = ltS p.1 q.1 := by simp [joinR, h, h']
theorem joinR_nil {a b : List Rw} (h : a.length = 0 ∨ b.length = 0) : joinR a b = true := by
  rcases h with h | h
  · rw [List.eq_nil_of_length_eq_zero h]; simp [joinR]
  · rw [List.eq_nil_of_length_eq_zero h]; unfold joinR; split <;> simp_all
set_option maxHeartbeats 4000000 in
theorem joinR_ok (a b : List Rw) (A B : Option Addr) (c d : Nat) (w : World) (ha : Reads w 2 A a.length (rwFlat a)) (hb : Reads w 2 B b.length (rwFlat b)) (hoa : RwsOk a) (hob : RwsOk b) :
    Calls Try.prog 112 #[.slice A a.length c, .slice B b.length d] w (JoinRPost a b w) := by
  have HA := hid_ ha
  have HB := hid_ hb
  have OA := hid_ hoa
  have OB := hid_ hob
  have l1 := hoa.1
  have l2 := hob.1
  clear ha hb hoa hob
  go_enter Try.func112, Try.ntmps112
  go_upto_region 1 with fail
  go_cut [28] (fun u wq => u = .bool (!joinR a b) ∧ Fr none_ w wq)
  case rest =>
    obtain ⟨rfl, hf⟩ := hcut
    have F0 := hid_ hf
    have hs0 := hf.size
    clear hf
    cases hj : joinR a b with
    | false =>
      have HJ := hid_ hj
      clear hj
      go_wp2_with fail
      go_ret2
      exact .inr ⟨HJ.out, rfl, F0.out⟩
    | true =>
      have HJ := hid_ hj
      clear hj
      go_wp2_with fail
      have hB := Blk.new wc 36 #[.slice A a.length c, .slice B b.length d]
      refine (list_ok (wc.heap.size) [(A, c, a), (B, d, b)] (wc.alloc (.cells #[.slice A a.length c, .slice B b.length d] 36)) ?_ ?_ ?_ ?_).mono ?_
      · intro i x hx
        match i, hx with
        | 0, hx => cases hx; rw [hB.cell]; show some (Value.slice A a.length c) = some (Value.slice (A) (a).length (c)); rfl
        | 1, hx => cases hx; rw [hB.cell]; show some (Value.slice B b.length d) = some (Value.slice (B) (b).length (d)); rfl
        | k + 2, hx => simp at hx
      · intro x hx
        simp only [List.mem_cons, List.not_mem_nil, or_false] at hx
        rcases hx with rfl | rfl
        · show Reads (wc.alloc (.cells #[.slice A a.length c, .slice B b.length d] 36)) 2 (A) (a).length (rwFlat (a))
          exact (HA.out.none_fr F0.out).alloc _
        · show Reads (wc.alloc (.cells #[.slice A a.length c, .slice B b.length d] 36)) 2 (B) (b).length (rwFlat (b))
          exact (HB.out.none_fr F0.out).alloc _
      · simp [ptRL]; omega
      · simp
      rintro e w4 ⟨A', c', rfl, hown, hf4⟩
      rw [ptR_two] at hown ⊢
      have O4 := hid_ (own_base hown (by simp; omega : w.heap.size ≤ (wc.alloc (.cells #[.slice A a.length c, .slice B b.length d] 36)).heap.size))
      have F4 := hid_ (((F0.out.alloc _).then_none hf4))
      clear hown hf4 hB
      go_wp2
      go_ret2
      exact .inl ⟨HJ.out, A', c', by rw [List.length_append]; rfl, O4.out, F4.out⟩
  case first =>
    by_cases h1 : a.length = 0
    · have e1 : decide ((0 : Int) < (a.length : Int)) = false := decide_eq_false (by omega)
      have e2 : decide (0 < a.length) = false := decide_eq_false (by omega)
      have HJ := hid_ (joinR_nil (a := a) (b := b) (.inl h1))
      have hdd : (0 : Int) ≤ 0 := by omega
      clear h1
      go_quiet (fail)
      go_wp2
      go_meet
      case rel => exact ⟨by rw [HJ.out]; rfl, by repeat (first | exact Fr.refl none_ w | apply Fr.drewN | apply Fr.drew)⟩
    · have e1 : decide ((0 : Int) < (a.length : Int)) = true := decide_eq_true (by omega)
      have e2 : decide (0 < a.length) = true := decide_eq_true (by omega)
      by_cases h2 : b.length = 0
      · have e3 : decide ((0 : Int) < (b.length : Int)) = false := decide_eq_false (by omega)
        have e4 : decide (0 < b.length) = false := decide_eq_false (by omega)
        have HJ := hid_ (joinR_nil (a := a) (b := b) (.inr h2))
        clear h1 h2
        go_quiet (fail)
        go_wp2
        go_meet
        case rel => exact ⟨by rw [HJ.out]; rfl, by repeat (first | exact Fr.refl none_ w | apply Fr.drewN | apply Fr.drew)⟩
      · have e3 : decide ((0 : Int) < (b.length : Int)) = true := decide_eq_true (by omega)
        have e4 : decide (0 < b.length) = true := decide_eq_true (by omega)
        obtain ⟨n, hn⟩ : ∃ n, n = a.length - 1 := ⟨_, rfl⟩
        obtain ⟨p, hp⟩ : ∃ p, a[n]? = some p := ⟨_, List.getElem?_eq_getElem (by omega)⟩
        obtain ⟨q, hq⟩ : ∃ q, b[0]? = some q := ⟨_, List.getElem?_eq_getElem (by omega)⟩
        obtain ⟨gb, go, rfl, hgb, c0, c1⟩ := rw_at HA.out hp
        obtain ⟨hb2, ho2, rfl, hhb, d0, d1⟩ := rw_at HB.out hq
        have hw1 : IntKind.i64.wrap ((a.length : Int) - 1) = (n : Int) := by rw [show (a.length : Int) - 1 = (n : Int) by omega]; exact IntWalk.i64_in _ (by omega)
        have hi0 : (0 : Int) ≤ (n : Int) := Int.natCast_nonneg _
        have hi1 : (n : Int) < (a.length : Int) := by omega
        have hi2 : (0 : Int) < (b.length : Int) := by omega
        have HJ := hid_ (joinR_some (by rw [← hn]; exact hp) hq)
        have HC : Hid (∀ x : Wx w, Calls Try.prog 72 #[.string p.1, .string q.1] x.to fun e w' => e = .returned (.int .i64 (cmpI p.1 q.1)) ∧ Fr none_ x.to w') := hid_ (fun x => (compare_ok p.1 q.1 x.to (OA.out.2 p (List.mem_of_getElem? hp)).1.le (OB.out.2 q (List.mem_of_getElem? hq)).1.le).mono (by rintro e w' ⟨rfl, n, rfl⟩; exact ⟨rfl, (Fr.refl none_ _).drewN n⟩))
        have HGE := hid_ (cmp_ge p.1 q.1)
        simp only [Nat.zero_mul, Nat.add_zero] at d0
        have y0 : ∀ x : Wx w, x.to.cell? ⟨gb, go + n * 2, none⟩ = some (.string p.1) := fun x => x.cell c0
        have y1 : ∀ x : Wx w, x.to.cell? ⟨hb2, ho2, none⟩ = some (.string q.1) := fun x => x.cell d0
        clear hp hq c0 c1 d0 d1 hn h1 h2
        refine wp_region_quiet_x (by kernel_rfl) (by kernel_rfl) ?_
        repeat (first | go_big_quiet_step ((go_at_call 72; exact Calls.quiet_x (HC.out _))) | quiet_step ((go_at_call 72; exact Calls.quiet_x (HC.out _))))
        refine wpQuiet_nil ?_
        intro _ hw'
        obtain ⟨xq, hw''⟩ := hw'
        subst hw''
        go_wp2
        go_meet
        case rel => exact ⟨by rw [HJ.out, ← HGE.out], xq.fr⟩
end Go.Proofs.Ytpjbncbmdfmlpaa
namespace Go.Proofs.Ytpjbncbmdfmlpaa
open Go.RowKit Go.BigFrame
set_option maxRecDepth 100000
set_option linter.unusedVariables false

/-- Take's boxes: the span, the limit, what was taken. -/
structure TkSt (w wr : World) (low high : ByteArray) (unb : Bool) (M : List Rw) : Prop where
  bs : Blk wr w.heap.size 175 #[.string low, .string high, .bool unb]
  bl : Blk wr (w.heap.size + 1) 3 #[.int .i64 0]
  bo : ∃ v, Blk wr (w.heap.size + 1 + 1) 36 #[v] ∧ wr.ownsRow (w.heap.size + 1 + 1 + 1) 62 2 v M.length (rwFlat M)
  fr : Fr none_ w wr
theorem TkSt.keep {w w1 w2 : World} {low high : ByteArray} {unb : Bool} {M : List Rw} (h : TkSt w w1 low high unb M) (hf : Fr none_ w1 w2) : TkSt w w2 low high unb M := by
  obtain ⟨v, h1, h2⟩ := h.bo
  exact ⟨h.bs.fr hf id, h.bl.fr hf id, ⟨v, h1.fr hf id, own_none h2 hf⟩, h.fr.then_none hf⟩
def GivePost (w : World) (low high : ByteArray) (unb : Bool) (M : List Rw) (p : Rw) (e : Ending) (w' : World) : Prop :=
  e = .returned (.bool true) ∧ TkSt w w' low high unb (if inS low high unb p.1 = true then M ++ [p] else M)
set_option maxHeartbeats 4000000 in
theorem give_ok (w wr : World) (low high : ByteArray) (unb : Bool) (M : List Rw) (p : Rw) (h : TkSt w wr low high unb M) (hM : M.length ≤ 300000) (h1 : SzOk low) (h2 : SzOk high) (h3 : SzOk p.1) :
    Calls Try.prog 117 #[rwV p, .pointer (some ⟨w.heap.size, 0, none⟩), .pointer (some ⟨w.heap.size + 1 + 1, 0, none⟩), .pointer (some ⟨w.heap.size + 1, 0, none⟩)] wr (GivePost w low high unb M p) := by
  obtain ⟨i0, hi0, hz0, hs0, hb0⟩ := info_parts row_info
  have Hi := hid_ (And.intro hi0 (And.intro hz0 (And.intro hs0 hb0)))
  have HS := hid_ (And.intro h1 (And.intro h2 h3))
  obtain ⟨w0, hw0⟩ : ∃ z, z = wr.alloc (.cells #[.string p.1, .string p.2] 62) := ⟨_, rfl⟩
  have f0 : Fr none_ wr w0 := by rw [hw0]; exact (Fr.refl none_ wr).alloc _
  have B0 : Hid (Blk w0 wr.heap.size 62 #[.string p.1, .string p.2]) := hid_ (by rw [hw0]; exact Blk.new wr _ _)
  have T0 := hid_ (h.keep f0)
  have hsz := h.fr.size
  have hszb := h.bl.lt
  have hlo := h.bo.elim fun v hv => hv.1.lt
  clear hi0 hz0 hs0 hb0 h h1 h2 h3 f0
  go_enter Try.func117, Try.ntmps117
  go_upto_region 1 with fail
  change Code.wp _ _ _ _ (wr.alloc (.cells #[.string p.1, .string p.2] 62))
  rw [← hw0]
  clear hw0
  have c0 : w0.cell? ⟨wr.heap.size, 0, none⟩ = some (.string p.1) := B0.out.cell' rfl
  have s0 : w0.cell? ⟨w.heap.size, 0, none⟩ = some (.string low) := T0.out.bs.cell' rfl
  have s1 : w0.cell? ⟨w.heap.size, 1, none⟩ = some (.string high) := T0.out.bs.cell' rfl
  have s2 : w0.cell? ⟨w.heap.size, 2, none⟩ = some (.bool unb) := T0.out.bs.cell' rfl
  go_wp2_with fail
  refine (in_ok low high unb p.1 w0 HS.out.1.le HS.out.2.1.le HS.out.2.2.le).mono ?_
  rintro e w1 ⟨rfl, q, hw1⟩
  have f1 : Fr none_ w0 w1 := by rw [hw1]; exact (Fr.refl none_ w0).drewN q
  replace T0 := hid_ (T0.out.keep f1)
  replace B0 := hid_ (B0.out.fr f1 id)
  clear c0 s0 s1 s2 f1 hw1
  cases hin : inS low high unb p.1 with
  | false =>
    have HIN := hid_ hin
    clear hin
    have l0 : w1.cell? ⟨w.heap.size + 1, 0, none⟩ = some (.int .i64 0) := T0.out.bl.cell' rfl
    go_wp2_with fail
    go_ret
    exact ⟨rfl, by rw [HIN.out]; exact T0.out⟩
  | true =>
    have HIN := hid_ hin
    clear hin
    obtain ⟨v, hbo, hown⟩ := T0.out.bo
    obtain ⟨A, c, rfl⟩ := hown.shape
    have O := hid_ hown
    have BO := hid_ hbo
    have HNE := hid_ (And.intro (own_blk_ne hown hbo (by decide)) (And.intro (own_blk_ne hown T0.out.bs (by decide)) (own_blk_ne hown T0.out.bl (by decide))))
    have hob := fun b hb => (hown.lt b hb).1
    have HOB := hid_ hob
    clear hown hob
    have o0 : w1.cell? ⟨w.heap.size + 1 + 1, 0, none⟩ = some (.slice A M.length c) := BO.out.cell' rfl
    have c0 : w1.cell? ⟨wr.heap.size, 0, none⟩ = some (.string p.1) := B0.out.cell' rfl
    have c1 : w1.cell? ⟨wr.heap.size, 1, none⟩ = some (.string p.2) := B0.out.cell' rfl
    have hb1 := B0.out.lt
    have hcl := hbo.lt
    clear hbo
    go_upto_region 3 with (at_builtin; refine wpList_append_any _ rfl (.tmp 15) (.tmp 17) 36 rfl (w.heap.size + 1 + 1 + 1) 62 i0 _ 2 32 Try.underlying36 Hi.out.1 Hi.out.2.1 Hi.out.2.2.1 Hi.out.2.2.2 rfl (by omega) (.slice A M.length c) M.length (rwFlat M) rfl (O.out.alloc _) (some ⟨w1.heap.size, 0, none⟩) 1 1 [.string p.1, .string p.2] rfl (reads_new w1 _ [.string p.1, .string p.2] _ rfl) (by simp [Value.oneCell']) (by simp only [maxLen]; omega) (by omega) (by simp; omega) ?_; intro A3 c3 w3 hown3 hgr3; have hf3 : Fr (fun k => (Value.slice A M.length c).ownBlock = some k) w1 w3 := ((Fr.refl _ w1).alloc (.cells #[.string p.1, .string p.2] 62)).grown hgr3 (fun k hk => .inl hk); have O3 := hid_ hown3; have BO3 := hid_ (BO.out.fr hf3 HNE.out.1); have BS3 := hid_ (T0.out.bs.fr hf3 HNE.out.2.1); have BL3 := hid_ (T0.out.bl.fr hf3 HNE.out.2.2); have F3 : Hid (Fr none_ w w3) := hid_ (T0.out.fr.trans hf3 (fun _ _ => id) (fun k hk e => absurd (HOB.out k e) (by omega))); have o3 : w3.cell? ⟨w.heap.size + 1 + 1, 0, none⟩ = some (.slice A M.length c) := BO3.out.cell' rfl; have z3 := BO3.out.frozen 0; clear hown3 hgr3 hf3)
    obtain ⟨w4, hw4⟩ : ∃ z, z = w3.setCell ⟨w.heap.size + 1 + 1, 0, none⟩ (.slice A3 (M.length + 1) c3) := ⟨_, rfl⟩
    have f4 : Fr (only (w.heap.size + 1 + 1)) w3 w4 := by rw [hw4]; exact Fr.only1 w3 ⟨w.heap.size + 1 + 1, 0, none⟩ _
    have BO4 : Blk w4 (w.heap.size + 1 + 1) 36 #[.slice A3 (M.length + 1) c3] := by rw [hw4]; exact BO3.out.set_ 0 _
    have O4 := own_fr O3.out f4 (fun k hk e => own_blk_ne O3.out BO3.out (by decide) (by rw [hk, show k = w.heap.size + 1 + 1 from e]))
    have T4 : TkSt w w4 low high unb (M ++ [p]) := ⟨BS3.out.fr f4 (only_ne (by omega)), BL3.out.fr f4 (only_ne (by omega)), ⟨_, BO4, by rw [List.length_append, rwFlat_app, rwFlat_single]; exact O4⟩, F3.out.then_only f4 (.inr (by omega))⟩
    have HT4 := hid_ T4
    change Code.wp _ _ _ _ (w3.setCell ⟨w.heap.size + 1 + 1, 0, none⟩ (.slice A3 (M.length + 1) c3))
    rw [← hw4]
    clear hw4 f4 BO4 O4 T4 o3 z3 c0 c1 o0
    have l0 : w4.cell? ⟨w.heap.size + 1, 0, none⟩ = some (.int .i64 0) := HT4.out.bl.cell' rfl
    go_wp2_with fail
    go_ret
    exact ⟨rfl, by rw [HIN.out]; exact HT4.out⟩
/-- What Take without a limit tells: the rows of a span. -/
def TakePost (L : List Rw) (low high : ByteArray) (unb : Bool) (w : World) (e : Ending) (w' : World) : Prop :=
  ∃ A c, e = .returned (.slice A (inR low high unb L).length c) ∧ w'.ownsRow w.heap.size 62 2 (.slice A (inR low high unb L).length c) (inR low high unb L).length (rwFlat (inR low high unb L)) ∧ Fr none_ w w'
theorem inR_take {low high : ByteArray} {unb : Bool} {L : List Rw} {k : Nat} {p : Rw} (hp : L[k]? = some p) : inR low high unb (L.take (k + 1)) = if inS low high unb p.1 = true then inR low high unb (L.take k) ++ [p] else inR low high unb (L.take k) := by
  unfold inR
  rw [List.take_add_one, hp, List.filter_append]
  by_cases h : inS low high unb p.1 = true
  · rw [if_pos h]; simp [h]
  · rw [if_neg h]; simp [h]
theorem inR_le (low high : ByteArray) (unb : Bool) (L : List Rw) : (inR low high unb L).length ≤ L.length := List.length_filter_le _ _
set_option maxHeartbeats 4000000 in
theorem take_ok (L : List Rw) (A : Option Addr) (c : Nat) (low high : ByteArray) (unb : Bool) (w : World) (h : Reads w 2 A L.length (rwFlat L)) (ho : RwsOk L) (h1 : SzOk low) (h2 : SzOk high) :
    Calls Try.prog 107 #[.slice A L.length c, .agg #[.string low, .string high, .bool unb], .int .i64 0, .bool false] w (TakePost L low high unb w) := by
  obtain ⟨w0, hw0⟩ : ∃ z, z = ((w.alloc (.cells #[.string low, .string high, .bool unb] 175)).alloc (.cells #[.int .i64 0] 3)).alloc (.cells #[.slice none 0 0] 36) := ⟨_, rfl⟩
  have f0 : Fr none_ w w0 := by rw [hw0]; exact (((Fr.refl none_ w).alloc _).alloc _).alloc _
  have T0 : Hid (TkSt w w0 low high unb []) := hid_ (by
    refine ⟨?_, ?_, ⟨_, ?_, World.ownsRow_nil _ _ _ _⟩, f0⟩
    · rw [hw0]; exact ((Blk.new w _ _).alloc _).alloc _
    · rw [hw0]; exact (Blk.new7 _ _ (by simp)).alloc _
    · rw [hw0]; exact Blk.new7 _ _ (by simp))
  have H0 := hid_ h
  have HO := hid_ ho
  have HS := hid_ (And.intro h1 h2)
  have h3 := ho.1
  clear h ho h1 h2 f0
  go_enter Try.func107, Try.ntmps107
  go_upto_region 2 with fail
  change Code.wp _ _ _ _ (((w.alloc (.cells #[.string low, .string high, .bool unb] 175)).alloc (.cells #[.int .i64 0] 3)).alloc (.cells #[.slice none 0 0] 36))
  rw [← hw0]
  clear hw0
  go_wp2_with fail
  go_loopw [16] (fun i wr => ∃ k : Nat, k ≤ L.length ∧ i = .int .i64 k ∧ TkSt w wr low high unb (inR low high unb (L.take k))) (fun i _ => L.length - (intOf i).toNat)
  case atStart => exact ⟨0, Nat.zero_le _, rfl, T0.out⟩
  case round =>
    obtain ⟨k, hk, rfl, hT⟩ := hrel
    have T := hid_ hT
    have H := hid_ (H0.out.none_fr hT.fr)
    clear hT
    have hi0 : (0 : Int) ≤ (k : Int) := Int.natCast_nonneg _
    by_cases hlt : k < L.length
    · have hi1 : (k : Int) < (L.length : Int) := by omega
      obtain ⟨p, hp⟩ : ∃ p, L[k]? = some p := ⟨_, List.getElem?_eq_getElem hlt⟩
      obtain ⟨b, off, rfl, hb, c0, c1⟩ := rw_at H.out hp
      have HT := hid_ (inR_take (low := low) (high := high) (unb := unb) hp)
      have hsz := (HO.out.2 p (List.mem_of_getElem? hp)).1
      have hM : (inR low high unb (L.take k)).length ≤ 300000 := by
        have := inR_le low high unb (L.take k)
        have h2 : (L.take k).length = k := by simp; omega
        omega
      clear hp
      go_wp2_with fail
      refine (give_ok w wr low high unb _ p T.out hM HS.out.1 HS.out.2 hsz).mono ?_
      rintro e w1 ⟨rfl, hT1⟩
      rw [← HT.out] at hT1
      have T1 := hid_ hT1
      clear hT1 c0 c1
      go_wp2_with fail
      go_roundw
      case rel => exact ⟨k + 1, by omega, by go_num, T1.out⟩
      case measure => simp [intOf]; omega
    · obtain rfl : k = L.length := by omega
      have hT := T.out
      rw [List.take_length] at hT
      obtain ⟨v, hbo, hown⟩ := hT.bo
      obtain ⟨A', c', rfl⟩ := hown.shape
      have O := hid_ hown
      have FF := hid_ hT.fr
      have v0 : wr.cell? ⟨w.heap.size + 1 + 1, 0, none⟩ = some (.slice A' (inR low high unb L).length c') := hbo.cell' rfl
      clear hT hbo hown
      go_wp2_with fail
      go_ret
      exact ⟨A', c', rfl, own_base O.out (by omega), FF.out⟩
def SoundLPost (low high : ByteArray) (unb : Bool) (L : List Rw) (w : World) (e : Ending) (w' : World) : Prop := ∃ b : Bool, e = .returned (.bool b) ∧ (b = true ↔ SoundR low high unb L) ∧ Fr none_ w w'
set_option maxHeartbeats 4000000 in
theorem soundL_ok (L : List Rw) (A : Option Addr) (c : Nat) (low high : ByteArray) (unb : Bool) (w : World) (h : Reads w 2 A L.length (rwFlat L)) (ho : RwsOk L) (h1 : SzOk low) (h2 : SzOk high) :
    Calls Try.prog 85 #[.slice A L.length c, .agg #[.string low, .string high, .bool unb]] w (SoundLPost low high unb L w) := by
  obtain ⟨w0, hw0⟩ : ∃ z, z = w.alloc (.cells #[.string low, .string high, .bool unb] 175) := ⟨_, rfl⟩
  have f0 : Fr none_ w w0 := by rw [hw0]; exact (Fr.refl none_ w).alloc _
  have B0 : Hid (Blk w0 w.heap.size 175 #[.string low, .string high, .bool unb]) := hid_ (by rw [hw0]; exact Blk.new w _ _)
  have H0 := hid_ (h.none_fr f0)
  have F0 := hid_ f0
  have HO := hid_ ho
  have HS := hid_ (And.intro h1 h2)
  have h3 := ho.1
  clear h ho h1 h2 f0
  go_enter Try.func85, Try.ntmps85
  go_upto_region 1 with fail
  change Code.wp _ _ _ _ (w.alloc (.cells #[.string low, .string high, .bool unb] 175))
  rw [← hw0]
  clear hw0
  go_cut [16] (fun u wq => ∃ bb : Bool, u = .bool bb ∧ (bb = false ↔ ((unb = true → high = nilS) ∧ RightR L)) ∧ Fr none_ w0 wq)
  case first =>
    have v1 : w0.cell? ⟨w.heap.size, 1, none⟩ = some (.string high) := B0.out.cell' rfl
    have v2 : w0.cell? ⟨w.heap.size, 2, none⟩ = some (.bool unb) := B0.out.cell' rfl
    by_cases hb : unb = true ∧ high ≠ nilS
    · rw [hb.1] at v2
      have hh : high.toList.isEmpty = false := by
        cases e : high.toList.isEmpty with
        | false => rfl
        | true => exact absurd (ba_eq (by rw [← ba_toList, List.isEmpty_iff.1 e])) hb.2
      have hh2 : (!high.toList.isEmpty) = true := by rw [hh]; rfl
      have HB := hid_ hb
      clear hb
      go_wp2_with fail
      go_meet
      case rel => exact ⟨true, rfl, ⟨(fun h => by cases h), fun h => absurd (h.1 HB.out.1) HB.out.2⟩, Fr.refl _ _⟩
    · have HHI : Hid (unb = true → high = nilS) := hid_ (fun hu => Classical.byContradiction fun hn => hb ⟨hu, hn⟩)
      clear hb
      cases unb with
      | false =>
        go_wp2_with fail
        refine (rightR_ok L A c _ H0.out HO.out).mono ?_
        rintro e w1 ⟨b, rfl, hb, hf⟩
        have HB := hid_ hb
        have F1 := hid_ hf
        clear hb hf
        go_wp2_with fail
        go_meet
        case rel => exact ⟨_, rfl, by rw [← HB.out]; cases b <;> simp, F1.out⟩
      | true =>
        rw [HHI.out (by simp)] at v1
        go_wp2_with fail
        refine (rightR_ok L A c _ H0.out HO.out).mono ?_
        rintro e w1 ⟨b, rfl, hb, hf⟩
        have HB := hid_ hb
        have F1 := hid_ hf
        clear hb hf
        go_wp2_with fail
        go_meet
        case rel => exact ⟨_, rfl, by rw [← HB.out]; have := HHI.out (by simp); cases b <;> simp [this], F1.out⟩
  case rest =>
    obtain ⟨bb, rfl, hbb, hf⟩ := hcut
    have HB := hid_ hbb
    have F1 := hid_ (F0.out.then_none hf)
    have B1 := hid_ (B0.out.fr hf id)
    have H1 := hid_ (H0.out.none_fr hf)
    clear hbb hf
    cases bb with
    | true =>
      go_wp2_with fail
      go_ret
      exact ⟨false, rfl, ⟨(fun h => by cases h), fun h => by have := HB.out.2 ⟨h.hi, h.right⟩; cases this⟩, F1.out⟩
    | false =>
      have v0 : wc.cell? ⟨w.heap.size, 0, none⟩ = some (.string low) := B1.out.cell' rfl
      have v1 : wc.cell? ⟨w.heap.size, 1, none⟩ = some (.string high) := B1.out.cell' rfl
      have v2 : wc.cell? ⟨w.heap.size, 2, none⟩ = some (.bool unb) := B1.out.cell' rfl
      go_wp2_with fail
      refine (take_ok L A c low high unb wc H1.out HO.out HS.out.1 HS.out.2).mono ?_
      rintro e w2 ⟨A', c', rfl, hown, hf2⟩
      have F2 := hid_ (F1.out.then_none hf2)
      have hle := inR_le low high unb L
      obtain ⟨n, hn⟩ : ∃ n, n = (inR low high unb L).length := ⟨_, rfl⟩
      rw [← hn]
      rw [← hn] at hle
      have HN := hid_ hn
      clear hown hf2 hn v0 v1 v2
      by_cases he : n = L.length
      · have e1 : ((n : Int) == (L.length : Int)) = true := beq_iff_eq.2 (by omega)
        have HE := hid_ he
        clear he
        go_wp2_with fail
        go_ret
        exact ⟨true, rfl, ⟨fun _ => ⟨(HB.out.1 (by simp)).1, (HB.out.1 (by simp)).2, inR_all.1 (HN.out.symm.trans HE.out)⟩, fun _ => rfl⟩, F2.out⟩
      · have e1 : ((n : Int) == (L.length : Int)) = false := beq_eq_false_iff_ne.2 (by omega)
        have HE := hid_ he
        clear he
        go_wp2_with fail
        go_ret
        exact ⟨false, rfl, ⟨(fun h => by cases h), fun h => absurd (HN.out.trans (inR_all.2 h.inn)) HE.out⟩, F2.out⟩
end Go.Proofs.Ytpjbncbmdfmlpaa

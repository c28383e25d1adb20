/- Texts of one proof, merged: Base, Reads, More, Err, Open, Rec, Clone, RdAt, HeldT, Mid, Ar, Map, Ra10, HeldU. -/
import Derived.WalkKit
import Derived.Carry
import Derived.ProofKit
import Derived.SizedLaws
import Derived.LaidLaws
import Derived.LaidHandle
import Derived.Stop.Joined
import Derived.Deep.QuietTactic
import Derived.Deep.Slices
import Derived.Laws.OwnMore
import Derived.Deep.AppendLies
import Derived.Maps.AppendAt
import Derived.RegionTactic
import Derived.OwnWalk
import Derived.Test.YtfihfjbakfadkaaDoorProg
import Derived.WalkLawsBesides
import Derived.WalkSpells
import Derived.BigQuiet
import Derived.ChangeArms
import Derived.OrdersHeld
import Derived.Deep.MidRow
import Derived.Deep.RegionHeld3
import Derived.Laws.MakeOwn
import Derived.Deep.Cut
namespace Go.Proofs.YtfihfjbakfadkaaDoor
open Go.ChangeShapes Go.WideShapes Go.RowKit

/-- w' is w with new blocks; of the old blocks only those in S may have turned. -/
structure Fr (S : Nat → Prop) (w w' : World) : Prop where
  os : w'.os = w.os
  tape : w'.tape = w.tape
  output : w'.output = w.output
  size : w.heap.size ≤ w'.heap.size
  block : ∀ k, k < w.heap.size → ¬ S k → w'.heap[k]? = w.heap[k]?

theorem hid_ {p : Prop} (h : p) : Hid p := h

def none_ : Nat → Prop := fun _ => False

def only (g : Nat) : Nat → Prop := fun k => k = g
theorem only_ne {g k : Nat} (h : k ≠ g) : ¬ only g k := h

theorem Fr.refl (S : Nat → Prop) (w : World) : Fr S w w := ⟨rfl, rfl, rfl, Nat.le_refl _, fun _ _ _ => rfl⟩
theorem Fr.mono {S S' : Nat → Prop} {w w' : World} (h : Fr S w w') (hs : ∀ k, k < w.heap.size → S k → S' k) : Fr S' w w' :=
  ⟨h.os, h.tape, h.output, h.size, fun k hk hn => h.block k hk (fun e => hn (hs k hk e))⟩
theorem Fr.trans {S S' S'' : Nat → Prop} {a b c : World} (h : Fr S a b) (k : Fr S' b c) (h1 : ∀ i, i < a.heap.size → S i → S'' i) (h2 : ∀ i, i < a.heap.size → S' i → S'' i) : Fr S'' a c :=
  ⟨k.os.trans h.os, k.tape.trans h.tape, k.output.trans h.output, Nat.le_trans h.size k.size, fun i hi hn =>
    (k.block i (Nat.lt_of_lt_of_le hi h.size) (fun e => hn (h2 i hi e))).trans (h.block i hi (fun e => hn (h1 i hi e)))⟩
/-- A step that turned block g alone, which is new against the world behind h. -/
theorem Fr.then_only {S : Nat → Prop} {a b c : World} {g : Nat} (h : Fr S a b) (k : Fr (only g) b c) (hg : S g ∨ a.heap.size ≤ g) : Fr S a c :=
  h.trans k (fun _ _ => id) (fun i hi e => by
    obtain rfl : i = g := e
    rcases hg with hg | hg
    · exact hg
    · omega)
theorem Fr.then_none {S : Nat → Prop} {a b c : World} (h : Fr S a b) (k : Fr none_ b c) : Fr S a c := h.trans k (fun _ _ => id) (fun _ _ e => e.elim)
theorem Fr.drew {S : Nat → Prop} {a w : World} (h : Fr S a w) : Fr S a w.drew := ⟨h.os, h.tape, h.output, h.size, h.block⟩
theorem Fr.drewN {S : Nat → Prop} {a w : World} (h : Fr S a w) (n : Nat) : Fr S a (w.drewN n) := ⟨h.os, h.tape, h.output, h.size, h.block⟩
theorem Fr.alloc {S : Nat → Prop} {a w : World} (h : Fr S a w) (o : Obj) : Fr S a (w.alloc o) :=
  ⟨h.os, h.tape, h.output, Nat.le_trans h.size (by simp), fun k hk hn => (Below.heap_alloc w o k (Nat.lt_of_lt_of_le hk h.size)).trans (h.block k hk hn)⟩
theorem Fr.setCell {S : Nat → Prop} {a w : World} (h : Fr S a w) {p : Addr} (hp : S p.block ∨ a.heap.size ≤ p.block) (u : Value) : Fr S a (w.setCell p u) :=
  ⟨h.os, h.tape, h.output, by simpa [World.setCell] using h.size, fun k hk hn => (Below.heap_setCell w p u k (by
    rintro rfl
    rcases hp with hp | hp
    · exact hn hp
    · omega)).trans (h.block k hk hn)⟩
theorem Fr.grown {S : Nat → Prop} {a w w' : World} {row : Option Nat} (h : Fr S a w) (hg : w.grownBy w' row) (hr : ∀ k, row = some k → S k ∨ a.heap.size ≤ k) : Fr S a w' :=
  ⟨hg.os.trans h.os, hg.tape.trans h.tape, hg.output.trans h.output, Nat.le_trans h.size hg.size, fun k hk hn =>
    (hg.block k (Nat.lt_of_lt_of_le hk h.size) (fun e => by
      rcases hr k e.symm with h' | h'
      · exact hn h'
      · omega)).trans (h.block k hk hn)⟩
theorem Fr.below {S : Nat → Prop} {w w' : World} (h : Fr S w w') {B : Nat} (hB : B ≤ w.heap.size) (hs : ∀ k, S k → B ≤ k) : Below B w w' :=
  ⟨h.os, h.tape, h.output, h.size, fun k hk => h.block k (by omega) (fun e => by have := hs k e; omega)⟩
theorem Fr.below0 {w w' : World} (h : Fr none_ w w') : Below w.heap.size w w' := h.below (Nat.le_refl _) (fun _ e => e.elim)

/-- Block g holds just the cells cs, of element type t; none is frozen. -/
def Blk (w : World) (g : Nat) (t : TypeId) (cs : Array Value) : Prop := w.heap[g]? = some (.cells cs t (0, 0))

section
variable {w w' : World} {g : Nat} {t : TypeId} {cs : Array Value} {S : Nat → Prop}
theorem Blk.lt (h : Blk w g t cs) : g < w.heap.size := by
  rcases Nat.lt_or_ge g w.heap.size with hlt | hge
  · exact hlt
  · unfold Blk at h; rw [Array.getElem?_eq_none hge] at h; cases h
theorem Blk.cell (h : Blk w g t cs) (i : Nat) : w.cell? ⟨g, i, none⟩ = cs[i]? := cell_of_row w g i cs t (0, 0) h
theorem Blk.cell' (h : Blk w g t cs) {i : Nat} {v : Value} (hv : cs[i]? = some v) : w.cell? ⟨g, i, none⟩ = some v := (h.cell i).trans hv
theorem Blk.frozen (h : Blk w g t cs) (i : Nat) : w.frozen? ⟨g, i, none⟩ = false := by
  unfold Blk at h
  simp [World.frozen?, h]
theorem Blk.new (w : World) (t : TypeId) (cs : Array Value) : Blk (w.alloc (.cells cs t)) w.heap.size t cs := heap_alloc_new w _
theorem Blk.drew (h : Blk w g t cs) : Blk w.drew g t cs := h
theorem Blk.drewN (h : Blk w g t cs) (n : Nat) : Blk (w.drewN n) g t cs := h
theorem Blk.alloc (h : Blk w g t cs) (o : Obj) : Blk (w.alloc o) g t cs := (Below.heap_alloc w o g h.lt).trans h
theorem Blk.set_ (h : Blk w g t cs) (i : Nat) (u : Value) : Blk (w.setCell ⟨g, i, none⟩ u) g t (cs.setIfInBounds i u) := by
  unfold Blk at h ⊢
  simp [World.setCell, Array.getElem?_modify, h]
theorem Blk.far (h : Blk w g t cs) {p : Addr} (hp : g ≠ p.block) (u : Value) : Blk (w.setCell p u) g t cs := (Below.heap_setCell w p u g hp).trans h
theorem Blk.fr (h : Blk w g t cs) (hf : Fr S w w') (hg : ¬ S g) : Blk w' g t cs := (hf.block g h.lt hg).trans h
theorem Blk.below {B : Nat} (h : Blk w g t cs) (hb : Below B w w') (hg : g < B) : Blk w' g t cs := (hb.block g hg).trans h
theorem Blk.grown {row : Option Nat} (h : Blk w g t cs) (hb : w.grownBy w' row) (hg : some g ≠ row) : Blk w' g t cs := (hb.block g h.lt hg).trans h
theorem Blk.ne_ {g' : Nat} {t' : TypeId} {cs' : Array Value} (h : Blk w g t cs) (h' : Blk w g' t' cs') (hne : t ≠ t') : g ≠ g' := by
  rintro rfl
  unfold Blk at h h'
  rw [h] at h'
  injection h' with h'
  injection h' with _ ht
  exact hne ht
end

theorem _root_.Go.World.ownsRow.shape {w : World} {base : Nat} {e : TypeId} {size : Nat} {v : Value} {n : Nat} {xs : List Value} (h : w.ownsRow base e size v n xs) : ∃ A c, v = .slice A n c := by
  rcases h.2 with ⟨rfl, rfl⟩ | ⟨g, cap, cur, rfl, _⟩
  · exact ⟨_, _, rfl⟩
  · exact ⟨_, _, rfl⟩

section
variable {H : Type} {enc : TypeId × Value → H}

/-- All arguments read as they did. -/
theorem args_kept {P : Program} (hl : laidOutB P = true) {W W' : World} (hb : Below W.heap.size W W') : ∀ {ts : List TypeId} {vs : List Value} {ds : List (DataW H)} {ps : List MemPlace},
    (∀ t ∈ ts, P.readableRec t = true ∧ t < P.types.size) → DataW.TrodAll enc P W 0 (fun _ => true) true ts vs ds ps → (∀ x ∈ ps, x.block < W.heap.size) →
    DataW.TrodAll enc P W' 0 (fun b => decide (b < W.heap.size)) true ts vs ds ps
  | [], vs, ds, ps, _, h, _ => by
    obtain ⟨rfl, rfl, rfl⟩ := trodAll_nil h
    rfl
  | t :: ts, vs, ds, ps, hr, h, hlt => by
    obtain ⟨v, vs', d, ds', p, q, rfl, rfl, rfl, h1, h2⟩ := trodAll_cons h
    exact ⟨p, q, Below.trod hl (hr t (by simp)).1 (hr t (by simp)).2 h1 hb (fun x hx => hlt x (by simp [hx])), args_kept hl hb (fun t' ht' => hr t' (by simp [ht'])) h2 (fun x hx => hlt x (by simp [hx])), rfl⟩

/-- What a law's walk has to show: from any arguments that read as data, the call returns true and nothing of what was there turns. -/
def LawWalk (enc : TypeId × Value → H) (P : Program) (f : FuncId) (ts : List TypeId) (X : World → Prop) : Prop :=
  ∀ (W : World) (args : Array Value) (ds : List (DataW H)) (ps : List MemPlace) (base : Nat), DataW.TrodAll enc P W 0 (fun _ => true) true ts args.toList ds ps →
    (∀ (j : Nat) t v, ts[j]? = some t → args.toList[j]? = some v → Value.okWide P W .any base t v) → (∀ x ∈ ps, x.block < W.heap.size) →
    (DataW.weightsEach P ts ds).all (· ≤ reachBytes) = true → X W →
    Calls P f args W fun e W' => e = .returned (.bool true) ∧ Below W.heap.size W W'

theorem post_of_walk {P : Program} {fn : Func} {s : ChangeSpec} {apart handsOn : Bool} {tb : TypeId} (hl : laidOutB P = true) (hpar : (fn.params.toList.all fun t => P.readableRec t && decide (t < P.types.size)) = true)
    (hres : fn.resultTypes = #[tb]) (htb : P.underlying tb = some .bool) (hvars : s.vars = []) (hspec : ∀ ds : List (DataW H), ds.length = fn.params.toList.length → s.fn H (ds ++ []) = { results := [.lit (.bool true)], args := ds })
    {W W' : World} {args : Array Value} {ds gs : List (DataW H)} {before : List MemPlace} (hW : DataW.Whole enc P fn.params.toList s.vars apart W args.toList ds gs before) (hb : Below W.heap.size W W') :
    s.post enc P fn apart true handsOn false W args (.bool true) W' := by
  have hW' := hW
  obtain ⟨p, q, hA, hV, rfl, hfz, hnd⟩ := hW
  rw [hvars] at hV
  obtain ⟨rfl, rfl⟩ : gs = [] ∧ q = [] := by
    cases gs with
    | nil => exact ⟨rfl, hV⟩
    | cons g r => exact absurd hV (by intro h; cases h)
  have hlen : ds.length = fn.params.toList.length := by
    clear hpar hspec hfz hnd hW' hres hb
    generalize fn.params.toList = ts at hA
    generalize args.toList = vs at hA
    induction ts generalizing vs ds p with
    | nil => obtain ⟨rfl, rfl, rfl⟩ := trodAll_nil hA; rfl
    | cons t ts ih =>
      obtain ⟨v, vs', d, ds', p', q', rfl, rfl, rfl, h1, h2⟩ := trodAll_cons hA
      simp [ih _ _ h2]
  have hr : ∀ t ∈ fn.params.toList, P.readableRec t = true ∧ t < P.types.size := fun t ht => by
    have := List.all_eq_true.1 hpar t ht
    simpa using this
  have hlt : ∀ x ∈ p, x.block < W.heap.size := fun x hx => hW'.lt x (by simp [hx])
  have e := hspec ds hlen
  refine ⟨ds, [], _, [], p, [], hW', ?_, ?_, ?_, hb.frame _, fun h => by cases h⟩
  · rw [e, hres]
    exact trodAll_mk1 (shut_bool htb true)
  · rw [e]
    exact args_kept hl hb hr hA hlt
  · rw [e, hvars]
    rfl

theorem lift_laid {C : Checked} {os : Os} {f : FuncId} {fn : Func} {s : ChangeSpec} {apart handsOn : Bool} {tb : TypeId} {laid : List (String × DataW Unit)}
    (own : ownKnob C.prog.godebug = none) (started : os.Started) (noInit : C.prog.inits.idxOf? f = none) (hfn : C.prog.funcs[f]? = some fn)
    (hl : laidOutB C.prog = true) (hpar : (fn.params.toList.all fun t => C.prog.readableRec t && decide (t < C.prog.types.size)) = true)
    (hres : fn.resultTypes = #[tb]) (htb : C.prog.underlying tb = some .bool) (hvars : s.vars = []) (hspec : ∀ ds : List (DataW H), ds.length = fn.params.toList.length → s.fn H (ds ++ []) = { results := [.lit (.bool true)], args := ds })
    (witness : ∃ (w : World) (tape : Tape) (i : Input), w.os = os ∧ (w.forCall tape i).Shaped C.prog ∧ i.vars = [] ∧ Input.okWide C.prog (w.forCall tape i) .any w.heap.size f i ∧
      ((s.pre enc C.prog fn [] apart (w.forCall tape i).memory i.args ∧ laidMetH C.prog laid (w.forCall tape i).memory) ∧ sizedMet enc C.prog fn (OpenSpec.ofChange s) apart (w.forCall tape i).memory i.args) ∧ ({} : Assume).holds C.prog (lone (Frame.enter C.prog f i.args .normal) [] (w.forCall tape i)))
    (walk : LawWalk enc C.prog f fn.params.toList (fun W => laidMetH C.prog laid W)) :
    ReturnsInHanded {} C os f .any (fun w args => (s.pre enc C.prog fn [] apart w args ∧ laidMetH C.prog laid w) ∧ sizedMet enc C.prog fn (OpenSpec.ofChange s) apart w args) (s.post enc C.prog fn apart true handsOn false) := by
  refine returnsInHanded_of_change_and (X := fun w _ => laidMetH C.prog laid w) (fun _ _ _ hh h => h.of_heap hh) own started noInit hfn witness ?_
  intro W base args ds gs before hval hW _ hsz hL _
  have hW' := hW
  obtain ⟨p, q, hA, hV, rfl, hfz, hnd⟩ := hW
  rw [hvars] at hV
  obtain ⟨rfl, rfl⟩ : gs = [] ∧ q = [] := by
    cases gs with
    | nil => exact ⟨rfl, hV⟩
    | cons g r => exact absurd hV (by intro h; cases h)
  have hvt : s.plain.varTypes C.prog = [] := by simp [DataSpec.varTypes, ChangeSpec.plain, hvars]
  rw [hvt] at hsz
  simp only [List.append_nil] at hsz
  refine (walk W args ds p base hA (fun j t v ht hv => hval j t v (by simpa using ht) (by simpa using hv)) (fun x hx => hW'.lt x (by simp [hx])) hsz hL).mono fun e W' ⟨he, hb⟩ => ?_
  exact ⟨_, he, post_of_walk hl hpar hres htb hvars hspec hW' hb⟩
end
end Go.Proofs.YtfihfjbakfadkaaDoor
namespace Go.Proofs.YtfihfjbakfadkaaDoor
open Go.RowKit
set_option linter.unusedVariables false

theorem block_of_add (a : Addr) (n : Nat) : (a.add n).block = a.block := by unfold Addr.add; split <;> rfl
theorem add_lit (b off j : Nat) : (⟨b, off, none⟩ : Addr).add j = ⟨b, off + j, none⟩ := by
  unfold Addr.add
  split <;> simp_all

/-- The slice (A, n) holds the cells xs. -/
def Reads (w : World) (size : Nat) (A : Option Addr) (n : Nat) (xs : List Value) : Prop :=
  xs.length = n * size ∧ (0 < n → ∃ ad, A = some ad ∧ ∀ j u, xs[j]? = some u → w.cell? (ad.add j) = some u)

section
variable {w w' : World} {size n : Nat} {A : Option Addr} {xs : List Value}
theorem Reads.nil_ : Reads w size A 0 [] := ⟨by simp, fun h => absurd h (by omega)⟩
theorem Reads.of_own {base : Nat} {e : TypeId} {c : Nat} (h : w.ownsRow base e size (.slice A n c) n xs) : Reads w size A n xs := by
  refine ⟨h.1, fun hn => ?_⟩
  obtain ⟨g, cap, hv, _, hlt⟩ := h.form hn
  have hA : A = some ⟨g, 0, none⟩ := by injection hv
  subst hA
  exact ⟨_, rfl, h.cells (g := g) rfl⟩
/-- Kept where old cells read as they did. -/
theorem Reads.fr {S : Nat → Prop} (h : Reads w size A n xs) (hf : Fr S w w') (hS : ∀ ad, A = some ad → ¬ S ad.block) : Reads w' size A n xs :=
  ⟨h.1, fun hn => by
    obtain ⟨ad, e, hc⟩ := h.2 hn
    refine ⟨ad, e, fun j u hu => ?_⟩
    have h1 := hc j u hu
    have hlt := World.block_lt_of_cell? w _ h1
    exact (World.cell?_of_block (hf.block _ hlt (by rw [block_of_add]; exact hS ad e))).trans h1⟩
theorem Reads.none_fr (h : Reads w size A n xs) (hf : Fr none_ w w') : Reads w' size A n xs := h.fr hf (fun _ _ => id)
theorem Reads.drew (h : Reads w size A n xs) : Reads w.drew size A n xs := h
theorem Reads.alloc (h : Reads w size A n xs) (o : Obj) : Reads (w.alloc o) size A n xs := h.none_fr ((Fr.refl none_ w).alloc o)
end

theorem own_empty (w : World) (t : TypeId) (size : Nat) (base : Nat) (hb : base ≤ w.heap.size) : (w.alloc (.cells #[] t)).ownsRow base t size (.slice (some ⟨w.heap.size, 0, none⟩) 0 0) 0 [] :=
  World.ownsRow_made w #[] 0 hb (by simp) (by simp)

theorem own_empty_at (w : World) (t : TypeId) (size : Nat) (base b : Nat) (hb : base ≤ w.heap.size) (e : b = w.heap.size) : (w.alloc (.cells #[] t)).ownsRow base t size (.slice (some ⟨b, 0, none⟩) 0 0) 0 [] := by
  subst e
  exact own_empty w t size base hb

/-- A block that was just laid reads as a slice of one element. -/
theorem reads_new (w : World) (t : TypeId) (cs : List Value) (b : Nat) (e : b = w.heap.size) : Reads (w.alloc (.cells cs.toArray t)) cs.length (some ⟨b, 0, none⟩) 1 cs := by
  subst e
  refine ⟨by simp, fun _ => ⟨_, rfl, fun j u hu => ?_⟩⟩
  rw [add_lit, Nat.zero_add]
  exact (Blk.new w t cs.toArray).cell' (by simpa using hu)

/-- A row of the call's own, kept by whatever leaves its block alone. -/
theorem own_fr {w w' : World} {base : Nat} {e : TypeId} {size : Nat} {v : Value} {n : Nat} {xs : List Value} {S : Nat → Prop} (h : w.ownsRow base e size v n xs) (hf : Fr S w w') (hS : ∀ k, v.ownBlock = some k → ¬ S k) : w'.ownsRow base e size v n xs := by
  refine ⟨h.1, ?_⟩
  rcases h.2 with hn | ⟨g, cap, cur, rfl, hb, hh, rest⟩
  · exact .inl hn
  · exact .inr ⟨g, cap, cur, rfl, hb, (hf.block g (Array.getElem?_eq_some_iff.1 hh).1 (hS g rfl)).trans hh, rest⟩
theorem own_none {w w' : World} {base : Nat} {e : TypeId} {size : Nat} {v : Value} {n : Nat} {xs : List Value} (h : w.ownsRow base e size v n xs) (hf : Fr none_ w w') : w'.ownsRow base e size v n xs := own_fr h hf (fun _ _ => id)
theorem own_base {w : World} {base base' : Nat} {e : TypeId} {size : Nat} {v : Value} {n : Nat} {xs : List Value} (h : w.ownsRow base e size v n xs) (hb : base' ≤ base) : w.ownsRow base' e size v n xs := by
  refine ⟨h.1, ?_⟩
  rcases h.2 with hn | ⟨g, cap, cur, rfl, hb', rest⟩
  · exact .inl hn
  · exact .inr ⟨g, cap, cur, rfl, by omega, rest⟩
theorem own_blk_ne {w : World} {base : Nat} {e : TypeId} {size n : Nat} {v : Value} {xs : List Value} (h : w.ownsRow base e size v n xs) {g : Nat} {t : TypeId} {cs : Array Value} (hg : Blk w g t cs) (hne : e ≠ t) : v.ownBlock ≠ some g := by
  rcases h.2 with ⟨rfl, _⟩ | ⟨g', cap, cur, rfl, _, hh, _⟩
  · simp [Value.ownBlock]
  · intro he
    have : g' = g := by simpa [Value.ownBlock] using he
    subst this
    exact Blk.ne_ (t := e) hh hg hne rfl
theorem own_own_ne {w : World} {base base' : Nat} {e e' : TypeId} {size size' n n' : Nat} {v v' : Value} {xs xs' : List Value} (h : w.ownsRow base e size v n xs) (h' : w.ownsRow base' e' size' v' n' xs') (hne : e ≠ e') (k : Nat) (hk : v.ownBlock = some k) : ¬ v'.ownBlock = some k := by
  rcases h.2 with ⟨rfl, _⟩ | ⟨g, cap, cur, rfl, _, hh, _⟩
  · simp [Value.ownBlock] at hk
  · obtain rfl : g = k := by simpa [Value.ownBlock] using hk
    exact own_blk_ne h' (g := g) (t := e) (cs := cur) hh (Ne.symm hne)
/-- The parts of an owned row: its form, its cells. -/
theorem own_parts {w : World} {base : Nat} {e : TypeId} {size n : Nat} {v : Value} {xs : List Value} (h : w.ownsRow base e size v n xs) :
    ∃ A c, v = .slice A n c ∧ n ≤ c ∧ c ≤ maxLen ∧ (0 < n → ∃ g, A = some ⟨g, 0, none⟩ ∧ g < w.heap.size ∧ ∀ j u, xs[j]? = some u → w.cell? ⟨g, j, none⟩ = some u) := by
  have hR := h
  rcases h.2 with ⟨rfl, rfl⟩ | ⟨g, cap, cur, rfl, hb, hh, hc, hm, hs, ht⟩
  · exact ⟨none, 0, rfl, Nat.le_refl _, by simp, fun h => absurd h (by omega)⟩
  · refine ⟨_, _, rfl, hc, hm, fun _ => ⟨g, rfl, (Array.getElem?_eq_some_iff.1 hh).1, fun j u hu => ?_⟩⟩
    have := hR.cells (g := g) rfl j u hu
    rwa [add_lit, Nat.zero_add] at this

section
variable {P : Program} (w : World)
theorem run_append_of_nil (base : Nat) (t ty e : TypeId) (i : TypeInfo) (size : Nat) (ht : P.underlying t = some (.slice e)) (hi : P.info? e = some i)
    (v : Value) (n : Nat) (xs : List Value) (hown : w.ownsRow base e size v n xs) (c : Nat) : (Builtin.append_ #[t, t] ty #[v, .slice none 0 c]).run P w = .ok v w := by
  rcases hown.2 with ⟨rfl, rfl⟩ | ⟨g, cap, cur, rfl, _, _, hnc, _⟩
  · simp [Builtin.append_, run_underlying ht, sizeOf, typeInfo, hi, Builtin.lenOf, Builtin.firstCells]
  · simp [Builtin.append_, run_underlying ht, sizeOf, typeInfo, hi, Builtin.lenOf, Builtin.firstCells, hnc, storeCells]

theorem run_append_any (base : Nat) (t ty e : TypeId) (i : TypeInfo) (z : Value) (size bytes : Nat) (ht : P.underlying t = some (.slice e)) (hi : P.info? e = some i) (hz : i.zero = some z)
    (hsize : i.size = size) (hby : i.bytes = bytes) (hzs : z.cells.size = size) (hsz : 0 < size)
    (v : Value) (n : Nat) (xs : List Value) (hown : w.ownsRow base e size v n xs)
    (A : Option Addr) (m c : Nat) (news : List Value) (hr : Reads w size A m news) (h1 : ∀ u ∈ news, u.oneCell' = true)
    (h63 : n + m ≤ maxLen) (hbytes : (n + m) * bytes ≤ 140737488355328) (hbase : base ≤ w.heap.size) :
    ∃ v' w', (Builtin.append_ #[t, t] ty #[v, .slice A m c]).run P w = .ok v' w' ∧ w'.ownsRow base e size v' (n + m) (xs ++ news) ∧ w.grownBy w' v.ownBlock ∧
      (v'.ownBlock = v.ownBlock ∨ v'.ownBlock = some w.heap.size) := by
  rcases A with _ | ad
  · have hm : m = 0 := by
      rcases Nat.eq_zero_or_pos m with h0 | h0
      · exact h0
      · obtain ⟨ad, h, _⟩ := hr.2 h0
        cases h
    subst hm
    have hn : news = [] := List.eq_nil_of_length_eq_zero (by simpa using hr.1)
    subst hn
    exact ⟨v, w, run_append_of_nil w base t ty e i size ht hi v n xs hown c, by simpa using hown, World.grownBy.refl w _, .inl rfl⟩
  · have hcells : ∀ j u, news[j]? = some u → w.cell? (ad.add j) = some u := by
      intro j u hu
      rcases Nat.eq_zero_or_pos m with h0 | h0
      · subst h0
        have hn : news = [] := List.eq_nil_of_length_eq_zero (by simpa using hr.1)
        subst hn
        simp at hu
      · obtain ⟨ad', h, hc⟩ := hr.2 h0
        injection h with h
        subst h
        exact hc j u hu
    obtain ⟨v', w', hrun, h2, h3, _, h5⟩ := run_append_own_at (P := P) w base t ty e i z size bytes ht hi hz hsize hby hzs hsz v n xs hown ad m c news hr.1 hcells h1 h63 hbytes hbase
    exact ⟨v', w', hrun, h2, h3, h5⟩

theorem wp_append_any {o : Oper} {a : Act} {K : Act → World → Prop} {Q : Exit → Act → World → Prop} (s x : Operand) (t : TypeId)
    (ho : o.op = .call { callee := .builtin .append, args := #[s, x], argTypes := #[t, t] })
    (base : Nat) (e : TypeId) (i : TypeInfo) (z : Value) (size bytes : Nat) (ht : P.underlying t = some (.slice e)) (hi : P.info? e = some i) (hz : i.zero = some z)
    (hsize : i.size = size) (hby : i.bytes = bytes) (hzs : z.cells.size = size) (hsz : 0 < size)
    (v : Value) (n : Nat) (xs : List Value) (hs : a.eval s = v) (hown : w.ownsRow base e size v n xs)
    (A : Option Addr) (m c : Nat) (news : List Value) (hx : a.eval x = .slice A m c) (hr : Reads w size A m news) (h1 : ∀ u ∈ news, u.oneCell' = true)
    (h63 : n + m ≤ maxLen) (hbytes : (n + m) * bytes ≤ 140737488355328) (hbase : base ≤ w.heap.size)
    (h : ∀ A' c' w', w'.ownsRow base e size (.slice A' (n + m) c') (n + m) (xs ++ news) → w.grownBy w' v.ownBlock → K (a.put o.dst (.slice A' (n + m) c')) w') : o.wp P a w K Q := by
  obtain ⟨v', w', hrun, h2, h3, h4⟩ := run_append_any (P := P) w base t o.type e i z size bytes ht hi hz hsize hby hzs hsz v n xs hown A m c news hr h1 h63 hbytes hbase
  obtain ⟨A', c', rfl⟩ := h2.shape
  unfold Oper.wp execOp
  simp only [ho, resolve, invoke, builtin, Sem.run_bind, Sem.run_pure, Result.andThen_ok, List.map_toArray, List.map_cons, List.map_nil, hs, hx, hrun]
  exact h A' c' w' h2 h3

theorem wpList_append_any {ops : Array Oper} {rest : List Oper} {o : Oper} {a : Act} {Q : Exit → Act → World → Prop} (hgd : o.guard = none) (s x : Operand) (t : TypeId)
    (ho : o.op = .call { callee := .builtin .append, args := #[s, x], argTypes := #[t, t] })
    (base : Nat) (e : TypeId) (i : TypeInfo) (z : Value) (size bytes : Nat) (ht : P.underlying t = some (.slice e)) (hi : P.info? e = some i) (hz : i.zero = some z)
    (hsize : i.size = size) (hby : i.bytes = bytes) (hzs : z.cells.size = size) (hsz : 0 < size)
    (v : Value) (n : Nat) (xs : List Value) (hs : a.eval s = v) (hown : w.ownsRow base e size v n xs)
    (A : Option Addr) (m c : Nat) (news : List Value) (hx : a.eval x = .slice A m c) (hr : Reads w size A m news) (h1 : ∀ u ∈ news, u.oneCell' = true)
    (h63 : n + m ≤ maxLen) (hbytes : (n + m) * bytes ≤ 140737488355328) (hbase : base ≤ w.heap.size)
    (h : ∀ A' c' w', w'.ownsRow base e size (.slice A' (n + m) c') (n + m) (xs ++ news) → w.grownBy w' v.ownBlock → wpList P ops Q rest (a.put o.dst (.slice A' (n + m) c')) w') : wpList P ops Q (o :: rest) a w :=
  wpList_plain hgd fun _ hK => wp_append_any w s x t ho base e i z size bytes ht hi hz hsize hby hzs hsz v n xs hs hown A m c news hx hr h1 h63 hbytes hbase fun A' c' w' h2 h3 => hK _ _ (h A' c' w' h2 h3)

end
end Go.Proofs.YtfihfjbakfadkaaDoor
namespace Go.Proofs.YtfihfjbakfadkaaDoor
open Go.RowKit
set_option linter.unusedVariables false

theorem Fr.toOnly {a w : World} {p : Addr} (h : Fr none_ a w) (u : Value) : Fr (only p.block) a (w.setCell p u) :=
  (h.mono (S' := only p.block) (fun _ _ e => e.elim)).setCell (p := p) (.inl (Eq.refl _)) u
theorem Fr.only1 (w : World) (p : Addr) (u : Value) : Fr (only p.block) w (w.setCell p u) := (Fr.refl none_ w).toOnly u
theorem cellFr {w w' : World} {p : Addr} {v : Value} (h : w.cell? p = some v) (hf : Fr none_ w w') : w'.cell? p = some v :=
  (World.cell?_of_block (hf.block _ (World.block_lt_of_cell? w _ h) id)).trans h
theorem cellFrS {S : Nat → Prop} {w w' : World} {p : Addr} {v : Value} (h : w.cell? p = some v) (hf : Fr S w w') (hS : ¬ S p.block) : w'.cell? p = some v :=
  (World.cell?_of_block (hf.block _ (World.block_lt_of_cell? w _ h) hS)).trans h

def numFlat (N : List Int) : List Value := N.map (Value.int .i64)
section
variable {P : Program} (w : World)
/-- append, at the operation, with where the new row lies. -/
theorem wp_append_at {o : Oper} {a : Act} {K : Act → World → Prop} {Q : Exit → Act → World → Prop} (s x : Operand) (t : TypeId)
    (ho : o.op = .call { callee := .builtin .append, args := #[s, x], argTypes := #[t, t] })
    (base : Nat) (e : TypeId) (i : TypeInfo) (z : Value) (size bytes : Nat) (ht : P.underlying t = some (.slice e)) (hi : P.info? e = some i) (hz : i.zero = some z)
    (hsize : i.size = size) (hby : i.bytes = bytes) (hzs : z.cells.size = size) (hsz : 0 < size)
    (v : Value) (n : Nat) (xs : List Value) (hs : a.eval s = v) (hown : w.ownsRow base e size v n xs)
    (A : Option Addr) (m c : Nat) (news : List Value) (hx : a.eval x = .slice A m c) (hr : Reads w size A m news) (h1 : ∀ u ∈ news, u.oneCell' = true)
    (h63 : n + m ≤ maxLen) (hbytes : (n + m) * bytes ≤ 140737488355328) (hbase : base ≤ w.heap.size)
    (h : ∀ v' w', w'.ownsRow base e size v' (n + m) (xs ++ news) → w.grownBy w' v.ownBlock → (v'.ownBlock = v.ownBlock ∨ v'.ownBlock = some w.heap.size) → K (a.put o.dst v') w') : o.wp P a w K Q := by
  obtain ⟨v', w', hrun, h2, h3, h4⟩ := run_append_any (P := P) w base t o.type e i z size bytes ht hi hz hsize hby hzs hsz v n xs hown A m c news hr h1 h63 hbytes hbase
  unfold Oper.wp execOp
  simp only [ho, resolve, invoke, builtin, Sem.run_bind, Sem.run_pure, Result.andThen_ok, List.map_toArray, List.map_cons, List.map_nil, hs, hx, hrun]
  exact h v' w' h2 h3 h4
end
end Go.Proofs.YtfihfjbakfadkaaDoor
namespace Go.Proofs.YtfihfjbakfadkaaDoor
open Go.RowKit

abbrev errV (k : Int) : Value := .iface 56 (.int .i64 k)
end Go.Proofs.YtfihfjbakfadkaaDoor
namespace Go.Proofs.YtfihfjbakfadkaaDoor
open Go.ChangeShapes Go.WideShapes Go.RowKit Go.Deep

inductive Leaf where
  | int (k : IntKind)
  | bool
  | string
  | slice (t : TypeId)

/-- The cells of a value of type t: each one's place and kind. -/
def leaves (P : Program) : Nat → TypeId → List (Nat × Leaf)
  | 0, _ => []
  | n + 1, t =>
    match P.underlying t with
    | some .bool => [(0, .bool)]
    | some (.int k) => [(0, .int k)]
    | some .string => [(0, .string)]
    | some (.slice _) => [(0, .slice t)]
    | some (.struct fs) => fs.toList.flatMap fun f => (leaves P n f.type).map fun x => (f.offset + x.1, x.2)
    | _ => []

section
variable {H : Type} (enc : TypeId × Value → H) (P : Program) (w : World)

/-- A cell is of a kind; a slice's elements read as data, and lie below the heap's end. -/
def Conf : Leaf → Value → Prop
  | .int k, v => ∃ n, v = .int k n ∧ (Lit.int k n).wf = true
  | .bool, v => ∃ b, v = .bool b
  | .string, v => ∃ s : ByteArray, v = .string s ∧ s.size ≤ reachBytes
  | .slice t, v => ∃ fuel d ps, DataW.trod enc P w 0 (fun _ => true) true fuel t [v] = some (d, ps) ∧ (∀ p ∈ ps, p.block < w.heap.size) ∧ (∀ x ∈ d.weights P t, x ≤ reachBytes)
end

section
variable {H : Type} {enc : TypeId × Value → H} {P : Program} {w : World}

theorem leaves_conf : ∀ (n : Nat) (t : TypeId) (fuel : Nat) (cs : List Value) (x : DataW H × List MemPlace), DataW.trod enc P w 0 (fun _ => true) true fuel t cs = some x →
    (∀ p ∈ x.2, p.block < w.heap.size) → (∀ y ∈ x.1.weights P t, y ≤ reachBytes) → ∀ o l, (o, l) ∈ leaves P n t → ∃ v, cs[o]? = some v ∧ Conf enc P w l v := by
  intro n
  induction n with
  | zero => intro t fuel cs x _ _ _ o l h; simp [leaves] at h
  | succ n ih =>
    intro t fuel cs x h hlt hwt o l hl
    simp only [leaves] at hl
    split at hl
    · rename_i hu
      obtain ⟨rfl, rfl⟩ : o = 0 ∧ l = .bool := by simpa using hl
      obtain ⟨b, rfl, _⟩ := DataW.trod_bool hu h
      exact ⟨_, rfl, b, rfl⟩
    · rename_i k hu
      obtain ⟨rfl, rfl⟩ : o = 0 ∧ l = .int k := by simpa using hl
      obtain ⟨b, rfl, _, hwf⟩ := DataW.trod_int hu h
      exact ⟨_, rfl, b, rfl, hwf⟩
    · rename_i hu
      obtain ⟨rfl, rfl⟩ : o = 0 ∧ l = .string := by simpa using hl
      obtain ⟨s, rfl, hx, _⟩ := DataW.trod_string hu h
      refine ⟨_, rfl, s, rfl, ?_⟩
      subst hx
      simpa [DataW.weights] using hwt
    · rename_i e hu
      obtain ⟨rfl, rfl⟩ : o = 0 ∧ l = .slice t := by simpa using hl
      rcases DataW.trod_slice hu h with ⟨rfl, _⟩ | ⟨a, len, cap, elems, rest, m, _, rfl, _⟩
      · exact ⟨_, rfl, fuel, x.1, x.2, h, hlt, hwt⟩
      · exact ⟨_, rfl, fuel, x.1, x.2, h, hlt, hwt⟩
    · rename_i fs hu
      obtain ⟨f, hf, hx⟩ := List.mem_flatMap.1 hl
      obtain ⟨⟨o', l'⟩, hm, he⟩ := List.mem_map.1 hx
      obtain ⟨rfl, rfl⟩ : f.offset + o' = o ∧ l' = l := by simpa using he
      obtain ⟨xs, m, _, rfl, _, hlen, hg⟩ := DataW.trod_struct hu h
      obtain ⟨i, hi, hfi⟩ := List.mem_iff_getElem.1 hf
      have hfi' : fs[i]? = some f := by
        rw [← Array.getElem?_toList, List.getElem?_eq_getElem hi, hfi]
      have hil : i < xs.length := by rw [hlen]; simpa using hi
      have hgi := hg i f hfi'
      rw [List.getElem?_eq_getElem hil] at hgi
      obtain ⟨v, hv, hc⟩ := ih f.type m _ xs[i] hgi (fun p hp => hlt p (List.mem_flatMap.2 ⟨xs[i], List.getElem_mem hil, hp⟩)) (fun y hy => hwt y (by
        simp only [DataW.weights, hu]
        refine DataW.weights_mem_each (j := i) (t := f.type) (d := xs[i].1) ?_ ?_ y hy
        · rw [List.getElem?_map, List.getElem?_eq_getElem hi, hfi]; rfl
        · rw [List.getElem?_map, List.getElem?_eq_getElem hil]; rfl)) o' l' hm
      refine ⟨v, ?_, hc⟩
      rw [List.getElem?_take] at hv
      split at hv
      · rw [List.getElem?_drop] at hv; exact hv
      · cases hv
    · simp at hl

/-- A flat argument by value. -/
theorem open_flat (m : Nat) {t : TypeId} {v : Value} {d : DataW H} {ps : List MemPlace} (h : DataW.Trod enc P w 0 (fun _ => true) true t v d ps)
    (hlt : ∀ p ∈ ps, p.block < w.heap.size) (hwt : ∀ y ∈ d.weights P t, y ≤ reachBytes) : ∀ o l, (o, l) ∈ leaves P m t → ∃ u, v.cells.toList[o]? = some u ∧ Conf enc P w l u := by
  obtain ⟨fuel, hf⟩ := h
  exact leaves_conf m t fuel _ _ hf hlt hwt

theorem open_agg (m : Nat) {t : TypeId} {fs : Array Field} {r : Reach} {b0 : Nat} {v : Value} {d : DataW H} {ps : List MemPlace} (hs : P.underlying t = some (.struct fs)) (hv : Value.okWide P w r b0 t v) (h : DataW.Trod enc P w 0 (fun _ => true) true t v d ps)
    (hlt : ∀ p ∈ ps, p.block < w.heap.size) (hwt : ∀ y ∈ d.weights P t, y ≤ reachBytes) : ∃ cs : List Value, v = .agg cs.toArray ∧ cs.length = P.cellsOf t ∧ ∀ o l, (o, l) ∈ leaves P m t → ∃ u, cs[o]? = some u ∧ Conf enc P w l u := by
  obtain ⟨cs, rfl, hsz⟩ := okWide_struct hs hv
  refine ⟨cs.toList, by simp, by simpa using hsz, ?_⟩
  have := open_flat (P := P) (w := w) m h hlt hwt
  simpa [Value.cells] using this

end
end Go.Proofs.YtfihfjbakfadkaaDoor
namespace Go.Proofs.YtfihfjbakfadkaaDoor
open Go.ChangeShapes Go.WideShapes Go.RowKit
set_option maxRecDepth 100000
set_option linter.unusedVariables false

abbrev Rw := ByteArray × ByteArray
abbrev Et := ByteArray × Int
structure Rc where
  kind : Int
  low : ByteArray
  high : ByteArray
  unb : Bool
  right : Int
  rows : List Rw
  ents : List Et
  key : ByteArray
  val : ByteArray
  page : Int
  hpage : Int
  hleft : Int
  hkey : ByteArray
  nslot : Int
  ngen : Int
abbrev nilS : ByteArray := ⟨#[]⟩
def Rc.zero : Rc := ⟨0, nilS, nilS, false, 0, [], [], nilS, nilS, 0, 0, 0, nilS, 0, 0⟩
abbrev recA (R : Rc) (vr ve : Value) : Array Value := #[.int .i64 R.kind, .string R.low, .string R.high, .bool R.unb, .int .i64 R.right, vr, ve, .string R.key, .string R.val, .int .i64 R.page, .int .i64 R.hpage, .int .i64 R.hleft, .string R.hkey, .int .i64 R.nslot, .int .i64 R.ngen]
abbrev recV (R : Rc) (vr ve : Value) : Value := .agg (recA R vr ve)
abbrev recB (R : Rc) (vr ve : Value) : Obj := .cells (recA R vr ve) 41

def rwCells (p : Rw) : List Value := [.string p.1, .string p.2]
def etCells (p : Et) : List Value := [.string p.1, .int .i64 p.2]
def rwFlat (L : List Rw) : List Value := (L.map rwCells).flatten
def etFlat (L : List Et) : List Value := (L.map etCells).flatten
theorem rwFlat_len (L : List Rw) : (rwFlat L).length = L.length * 2 := by
  unfold rwFlat
  induction L with
  | nil => rfl
  | cons p t ih => simp [rwCells] at ih ⊢; omega
theorem etFlat_len (L : List Et) : (etFlat L).length = L.length * 2 := by
  unfold etFlat
  induction L with
  | nil => rfl
  | cons p t ih => simp [etCells] at ih ⊢; omega
theorem rwFlat_one (L : List Rw) : ∀ u ∈ rwFlat L, u.oneCell' = true := by
  intro u hu
  simp only [rwFlat, List.mem_flatten, List.mem_map] at hu
  obtain ⟨l, ⟨p, _, rfl⟩, hu⟩ := hu
  simp only [rwCells, List.mem_cons, List.not_mem_nil, or_false] at hu
  rcases hu with rfl | rfl <;> rfl
theorem etFlat_one (L : List Et) : ∀ u ∈ etFlat L, u.oneCell' = true := by
  intro u hu
  simp only [etFlat, List.mem_flatten, List.mem_map] at hu
  obtain ⟨l, ⟨p, _, rfl⟩, hu⟩ := hu
  simp only [etCells, List.mem_cons, List.not_mem_nil, or_false] at hu
  rcases hu with rfl | rfl <;> rfl
theorem etFlat_get : ∀ (L : List Et) (i : Nat) (p : Et), L[i]? = some p → (etFlat L)[i * 2]? = some (.string p.1) ∧ (etFlat L)[i * 2 + 1]? = some (.int .i64 p.2)
  | [], i, p, h => by simp at h
  | q :: L, 0, p, h => by
    obtain rfl : q = p := by simpa using h
    simp [etFlat, etCells]
  | q :: L, i + 1, p, h => by
    have := etFlat_get L i p (by simpa using h)
    rw [show (i + 1) * 2 = i * 2 + 1 + 1 by omega]
    simpa [etFlat, etCells] using this
theorem flat2_inv {α : Type} (f g : α → Value) : ∀ (L : List α) (j : Nat) (u : Value), ((L.map fun p => [f p, g p]).flatten)[j]? = some u → ∃ (k : Nat) (p : α), L[k]? = some p ∧ ((j = k * 2 ∧ u = f p) ∨ (j = k * 2 + 1 ∧ u = g p))
  | [], j, u, h => by simp at h
  | q :: L, j, u, h => by
    simp only [List.map_cons, List.flatten_cons] at h
    match j, h with
    | 0, h => exact ⟨0, q, rfl, .inl ⟨rfl, by simpa using h.symm⟩⟩
    | 1, h => exact ⟨0, q, rfl, .inr ⟨rfl, by simpa using h.symm⟩⟩
    | j + 2, h =>
      obtain ⟨k, p, hp, hh⟩ := flat2_inv f g L j u (by simpa using h)
      refine ⟨k + 1, p, by simpa using hp, ?_⟩
      rcases hh with ⟨e, hu⟩ | ⟨e, hu⟩
      · exact .inl ⟨by omega, hu⟩
      · exact .inr ⟨by omega, hu⟩

/-- Rows that came in, as a list (all texts of the reach). -/
def RwReads (w : World) (A : Option Addr) (n : Nat) (L : List Rw) : Prop :=
  L.length = n ∧ (0 < n → ∃ b off, A = some ⟨b, off, none⟩ ∧ b < w.heap.size ∧ ∀ k p, L[k]? = some p →
    (p.1.size ≤ reachBytes ∧ p.2.size ≤ reachBytes) ∧ w.cell? ⟨b, off + k * 2, none⟩ = some (.string p.1) ∧ w.cell? ⟨b, off + k * 2 + 1, none⟩ = some (.string p.2))
def EtReads (w : World) (A : Option Addr) (n : Nat) (L : List Et) : Prop :=
  L.length = n ∧ (0 < n → ∃ b off, A = some ⟨b, off, none⟩ ∧ b < w.heap.size ∧ ∀ k p, L[k]? = some p →
    (p.1.size ≤ reachBytes ∧ (Lit.int .i64 p.2).wf = true) ∧ w.cell? ⟨b, off + k * 2, none⟩ = some (.string p.1) ∧ w.cell? ⟨b, off + k * 2 + 1, none⟩ = some (.int .i64 p.2))
theorem RwReads.reads {w : World} {A : Option Addr} {n : Nat} {L : List Rw} (h : RwReads w A n L) : Reads w 2 A n (rwFlat L) := by
  refine ⟨by rw [rwFlat_len, h.1], fun hn => ?_⟩
  obtain ⟨b, off, hA, hb, hc⟩ := h.2 hn
  refine ⟨⟨b, off, none⟩, hA, fun j u hu => ?_⟩
  obtain ⟨k, p, hp, hh⟩ := flat2_inv (fun p : Rw => Value.string p.1) (fun p => .string p.2) L j u hu
  obtain ⟨_, c0, c1⟩ := hc k p hp
  rw [add_lit]
  rcases hh with ⟨rfl, rfl⟩ | ⟨rfl, rfl⟩
  · exact c0
  · exact c1
theorem EtReads.reads {w : World} {A : Option Addr} {n : Nat} {L : List Et} (h : EtReads w A n L) : Reads w 2 A n (etFlat L) := by
  refine ⟨by rw [etFlat_len, h.1], fun hn => ?_⟩
  obtain ⟨b, off, hA, hb, hc⟩ := h.2 hn
  refine ⟨⟨b, off, none⟩, hA, fun j u hu => ?_⟩
  obtain ⟨k, p, hp, hh⟩ := flat2_inv (fun p : Et => Value.string p.1) (fun p => .int .i64 p.2) L j u hu
  obtain ⟨_, c0, c1⟩ := hc k p hp
  rw [add_lit]
  rcases hh with ⟨rfl, rfl⟩ | ⟨rfl, rfl⟩
  · exact c0
  · exact c1
theorem RwReads.fr {w w' : World} {A : Option Addr} {n : Nat} {L : List Rw} (h : RwReads w A n L) (hf : Fr none_ w w') : RwReads w' A n L :=
  ⟨h.1, fun hn => by
    obtain ⟨b, off, hA, hb, hc⟩ := h.2 hn
    exact ⟨b, off, hA, by have := hf.size; omega, fun k p hp => by
      obtain ⟨s, c0, c1⟩ := hc k p hp
      exact ⟨s, cellFr c0 hf, cellFr c1 hf⟩⟩⟩
theorem EtReads.fr {w w' : World} {A : Option Addr} {n : Nat} {L : List Et} (h : EtReads w A n L) (hf : Fr none_ w w') : EtReads w' A n L :=
  ⟨h.1, fun hn => by
    obtain ⟨b, off, hA, hb, hc⟩ := h.2 hn
    exact ⟨b, off, hA, by have := hf.size; omega, fun k p hp => by
      obtain ⟨s, c0, c1⟩ := hc k p hp
      exact ⟨s, cellFr c0 hf, cellFr c1 hf⟩⟩⟩
theorem row_info : (Tryd.prog.info? 137).map (fun i => (i.zero, i.size, i.bytes)) = some (some (.agg #[.string nilS, .string nilS]), 2, 32) := by kernel_rfl
theorem entry_info : (Tryd.prog.info? 139).map (fun i => (i.zero, i.size, i.bytes)) = some (some (.agg #[.string nilS, .int .i64 0]), 2, 24) := by kernel_rfl

/-- A record whose slices are rows of the call's own. -/
structure RecOwn (w : World) (base : Nat) (R : Rc) (vr ve : Value) : Prop where
  r : w.ownsRow base 137 2 vr R.rows.length (rwFlat R.rows)
  e : w.ownsRow base 139 2 ve R.ents.length (etFlat R.ents)
theorem RecOwn.keep {w w' : World} {base : Nat} {R : Rc} {vr ve : Value} (h : RecOwn w base R vr ve) (hf : Fr none_ w w') : RecOwn w' base R vr ve := ⟨own_none h.r hf, own_none h.e hf⟩
theorem RecOwn.base {w : World} {b b' : Nat} {R : Rc} {vr ve : Value} (h : RecOwn w b R vr ve) (hb : b' ≤ b) : RecOwn w b' R vr ve := ⟨own_base h.r hb, own_base h.e hb⟩
theorem RecOwn.fr {w w' : World} {S : Nat → Prop} {base : Nat} {R : Rc} {vr ve : Value} (h : RecOwn w base R vr ve) (hf : Fr S w w') (hr : ∀ k, vr.ownBlock = some k → ¬ S k) (he : ∀ k, ve.ownBlock = some k → ¬ S k) : RecOwn w' base R vr ve := ⟨own_fr h.r hf hr, own_fr h.e hf he⟩
/-- .. kept where a block of another type was turned. -/
theorem RecOwn.only {w w' : World} {base g : Nat} {R : Rc} {vr ve : Value} {t : TypeId} {cs : Array Value} (h : RecOwn w base R vr ve) (hf : Fr (only g) w w') (hg : Blk w g t cs) (h1 : 137 ≠ t) (h2 : 139 ≠ t) : RecOwn w' base R vr ve :=
  h.fr hf (fun k hk e => own_blk_ne h.r hg h1 (by rw [hk, show k = g from e])) (fun k hk e => own_blk_ne h.e hg h2 (by rw [hk, show k = g from e]))
theorem RecOwn.zero (w : World) (base : Nat) : RecOwn w base Rc.zero (.slice none 0 0) (.slice none 0 0) := ⟨World.ownsRow_nil _ _ _ _, World.ownsRow_nil _ _ _ _⟩
theorem box15 {w1 : World} {b : Nat} {t : TypeId} {c0 c1 c2 c3 c4 c5 c6 c7 c8 c9 c10 c11 c12 c13 c14 : Value} (h : Blk w1 b t #[c0, c1, c2, c3, c4, c5, c6, c7, c8, c9, c10, c11, c12, c13, c14]) (x0 x1 x2 x3 x4 x5 x6 x7 x8 x9 x10 x11 x12 x13 x14 : Value) :
    Blk (((((((((((((((w1.setCell ⟨b, 0, none⟩ x0).setCell ⟨b, 1, none⟩ x1).setCell ⟨b, 2, none⟩ x2).setCell ⟨b, 3, none⟩ x3).setCell ⟨b, 4, none⟩ x4).setCell ⟨b, 5, none⟩ x5).setCell ⟨b, 6, none⟩ x6).setCell ⟨b, 7, none⟩ x7).setCell ⟨b, 8, none⟩ x8).setCell ⟨b, 9, none⟩ x9).setCell ⟨b, 10, none⟩ x10).setCell ⟨b, 11, none⟩ x11).setCell ⟨b, 12, none⟩ x12).setCell ⟨b, 13, none⟩ x13).setCell ⟨b, 14, none⟩ x14) b t #[x0, x1, x2, x3, x4, x5, x6, x7, x8, x9, x10, x11, x12, x13, x14] ∧ Fr (only b) w1 (((((((((((((((w1.setCell ⟨b, 0, none⟩ x0).setCell ⟨b, 1, none⟩ x1).setCell ⟨b, 2, none⟩ x2).setCell ⟨b, 3, none⟩ x3).setCell ⟨b, 4, none⟩ x4).setCell ⟨b, 5, none⟩ x5).setCell ⟨b, 6, none⟩ x6).setCell ⟨b, 7, none⟩ x7).setCell ⟨b, 8, none⟩ x8).setCell ⟨b, 9, none⟩ x9).setCell ⟨b, 10, none⟩ x10).setCell ⟨b, 11, none⟩ x11).setCell ⟨b, 12, none⟩ x12).setCell ⟨b, 13, none⟩ x13).setCell ⟨b, 14, none⟩ x14) := by
  refine ⟨?_, ((((((((((((((((Fr.refl (only b) w1).setCell (p := ⟨b, 0, none⟩) (.inl (Eq.refl _)) x0).setCell (p := ⟨b, 1, none⟩) (.inl (Eq.refl _)) x1).setCell (p := ⟨b, 2, none⟩) (.inl (Eq.refl _)) x2).setCell (p := ⟨b, 3, none⟩) (.inl (Eq.refl _)) x3).setCell (p := ⟨b, 4, none⟩) (.inl (Eq.refl _)) x4).setCell (p := ⟨b, 5, none⟩) (.inl (Eq.refl _)) x5).setCell (p := ⟨b, 6, none⟩) (.inl (Eq.refl _)) x6).setCell (p := ⟨b, 7, none⟩) (.inl (Eq.refl _)) x7).setCell (p := ⟨b, 8, none⟩) (.inl (Eq.refl _)) x8).setCell (p := ⟨b, 9, none⟩) (.inl (Eq.refl _)) x9).setCell (p := ⟨b, 10, none⟩) (.inl (Eq.refl _)) x10).setCell (p := ⟨b, 11, none⟩) (.inl (Eq.refl _)) x11).setCell (p := ⟨b, 12, none⟩) (.inl (Eq.refl _)) x12).setCell (p := ⟨b, 13, none⟩) (.inl (Eq.refl _)) x13).setCell (p := ⟨b, 14, none⟩) (.inl (Eq.refl _)) x14)⟩
  have e := (((((((((((((((h.set_ 0 x0).set_ 1 x1).set_ 2 x2).set_ 3 x3).set_ 4 x4).set_ 5 x5).set_ 6 x6).set_ 7 x7).set_ 8 x8).set_ 9 x9).set_ 10 x10).set_ 11 x11).set_ 12 x12).set_ 13 x13).set_ 14 x14)
  simp only [List.setIfInBounds_toArray, List.set_cons_zero, List.set_cons_succ] at e
  exact e
end Go.Proofs.YtfihfjbakfadkaaDoor
namespace Go.Proofs.YtfihfjbakfadkaaDoor
open Go.RowKit
set_option maxRecDepth 100000
set_option linter.unusedVariables false

/-- What a record's two slices hold. -/
structure RecReads (w : World) (R : Rc) (A B : Option Addr) : Prop where
  r : Reads w 2 A R.rows.length (rwFlat R.rows)
  e : Reads w 2 B R.ents.length (etFlat R.ents)
theorem RecReads.keep {w w' : World} {R : Rc} {A B : Option Addr} (h : RecReads w R A B) (hf : Fr none_ w w') : RecReads w' R A B := ⟨h.r.none_fr hf, h.e.none_fr hf⟩
theorem RecOwn.reads {w : World} {base : Nat} {R : Rc} {A B : Option Addr} {c d : Nat} (h : RecOwn w base R (.slice A R.rows.length c) (.slice B R.ents.length d)) : RecReads w R A B := ⟨Reads.of_own h.r, Reads.of_own h.e⟩
theorem RecOwn.shape {w : World} {base : Nat} {R : Rc} {vr ve : Value} (h : RecOwn w base R vr ve) : ∃ A c B d, vr = .slice A R.rows.length c ∧ ve = .slice B R.ents.length d := by
  obtain ⟨A, c, e1⟩ := h.r.shape
  obtain ⟨B, d, e2⟩ := h.e.shape
  exact ⟨A, c, B, d, e1, e2⟩

/-- Behind the first append, and behind the second one. -/
structure CloneA (w w3 : World) (R : Rc) (vr ve v1 : Value) (A B : Option Addr) : Prop where
  f3 : Fr none_ w w3
  o1 : w3.ownsRow w.heap.size 137 2 v1 R.rows.length (rwFlat R.rows)
  k0 : Blk w3 w.heap.size 41 (recA R vr ve)
  k1 : Blk w3 (w.heap.size + 1) 41 (recA Rc.zero (.slice none 0 0) (.slice none 0 0))
  rd : RecReads w3 R A B
theorem clone_packA {w w3 : World} {R : Rc} {vr ve : Value} {A B A1 : Option Addr} {c1 : Nat} (h : RecReads w R A B) (hown : w3.ownsRow w.heap.size 137 2 (.slice A1 (0 + R.rows.length) c1) (0 + R.rows.length) ([] ++ rwFlat R.rows))
    (hgr : (((w.alloc (recB R vr ve)).alloc (recB Rc.zero (.slice none 0 0) (.slice none 0 0))).alloc (.cells #[] 137)).grownBy w3 (Value.slice (some ⟨w.heap.size + 1 + 1, 0, none⟩) 0 0).ownBlock) : CloneA w w3 R vr ve (.slice A1 R.rows.length c1) A B := by
  simp only [Nat.zero_add, List.nil_append] at hown
  have F3 : Fr none_ ((w.alloc (recB R vr ve)).alloc (recB Rc.zero (.slice none 0 0) (.slice none 0 0))) w3 := ((Fr.refl none_ _).alloc (.cells #[] 137)).grown hgr (fun k hk => .inr (by
    have : w.heap.size + 1 + 1 = k := by simpa [Value.ownBlock] using hk
    simp only [World.size_alloc]
    omega))
  have k1 := (Blk.new (w.alloc (recB R vr ve)) 41 (recA Rc.zero (.slice none 0 0) (.slice none 0 0))).fr F3 id
  rw [World.size_alloc] at k1
  have f := (((Fr.refl none_ w).alloc (recB R vr ve)).alloc (recB Rc.zero (.slice none 0 0) (.slice none 0 0))).then_none F3
  exact ⟨f, hown, ((Blk.new w _ _).alloc _).fr F3 id, k1, h.keep f⟩
structure CloneB (w w5 : World) (R : Rc) (ve v1 v2 : Value) : Prop where
  f5 : Fr none_ w w5
  o1 : w5.ownsRow w.heap.size 137 2 v1 R.rows.length (rwFlat R.rows)
  o2 : w5.ownsRow w.heap.size 139 2 v2 R.ents.length (etFlat R.ents)
  k0 : Blk w5 w.heap.size 41 (recA R v1 ve)
  k1 : Blk w5 (w.heap.size + 1) 41 (recA Rc.zero (.slice none 0 0) (.slice none 0 0))
theorem clone_packB {w w3 w5 : World} {R : Rc} {vr ve v1 : Value} {A B A2 : Option Addr} {c2 : Nat} (h : CloneA w w3 R vr ve v1 A B) (hown : w5.ownsRow w.heap.size 139 2 (.slice A2 (0 + R.ents.length) c2) (0 + R.ents.length) ([] ++ etFlat R.ents))
    (hgr : ((w3.setCell ⟨w.heap.size, 5, none⟩ v1).alloc (.cells #[] 139)).grownBy w5 (Value.slice (some ⟨w3.heap.size, 0, none⟩) 0 0).ownBlock) : CloneB w w5 R ve v1 (.slice A2 R.ents.length c2) := by
  simp only [Nat.zero_add, List.nil_append] at hown
  have F1 := Fr.only1 w3 ⟨w.heap.size, 5, none⟩ v1
  have hs : (w3.setCell ⟨w.heap.size, 5, none⟩ v1).heap.size = w3.heap.size := by simp
  have F5 : Fr none_ (w3.setCell ⟨w.heap.size, 5, none⟩ v1) w5 := ((Fr.refl none_ _).alloc (.cells #[] 139)).grown hgr (fun k hk => .inr (by
    have : w3.heap.size = k := by simpa [Value.ownBlock] using hk
    rw [hs]
    omega))
  exact ⟨(h.f3.then_only F1 (.inr (Nat.le_refl _))).then_none F5, own_none (own_fr h.o1 F1 (fun k hk e => own_blk_ne h.o1 h.k0 (by decide) (by rw [hk, show k = w.heap.size from e]))) F5, hown, (h.k0.set_ 5 v1).fr F5 id, (h.k1.fr F1 (only_ne (by simp))).fr F5 id⟩
theorem Reads.old {w : World} {size n : Nat} {A : Option Addr} {xs : List Value} (h : Reads w size A n xs) (hs : 0 < size) (hn : 0 < n) : ∀ ad, A = some ad → ad.block < w.heap.size := by
  intro ad e
  obtain ⟨ad', e', hc⟩ := h.2 hn
  rw [e] at e'
  cases e'
  have hl : 0 < xs.length := by rw [h.1]; exact Nat.mul_pos hn hs
  have := World.block_lt_of_cell? w _ (hc 0 xs[0] (List.getElem?_eq_getElem hl))
  rwa [block_of_add] at this

theorem CloneA.rd5 {w w3 : World} {R : Rc} {vr ve v1 : Value} {A B : Option Addr} (h : CloneA w w3 R vr ve v1 A B) (h0 : RecReads w R A B) : Reads ((w3.setCell ⟨w.heap.size, 5, none⟩ v1).alloc (.cells #[] 139)) 2 B R.ents.length (etFlat R.ents) := by
  rcases Nat.eq_zero_or_pos R.ents.length with hz | hz
  · exact ⟨by rw [etFlat_len], fun hn => by omega⟩
  · exact (h.rd.e.fr (Fr.only1 w3 ⟨w.heap.size, 5, none⟩ v1) (fun ad e => only_ne (by have := h0.e.old (by omega) hz ad e; show ad.block ≠ w.heap.size; omega))).alloc _
def ClonePost (R : Rc) (w : World) (e : Ending) (w' : World) : Prop :=
  ∃ A c B d, e = .returned (recV R (.slice A R.rows.length c) (.slice B R.ents.length d)) ∧ RecOwn w' w.heap.size R (.slice A R.rows.length c) (.slice B R.ents.length d) ∧ Fr none_ w w'
set_option maxHeartbeats 2000000 in
theorem clone_ok (R : Rc) (A : Option Addr) (c : Nat) (B : Option Addr) (d : Nat) (w : World) (h : RecReads w R A B) (hr : R.rows.length ≤ 1000) (he : R.ents.length ≤ 1000) :
    Calls Tryd.prog 53 #[recV R (.slice A R.rows.length c) (.slice B R.ents.length d)] w (ClonePost R w) := by
  obtain ⟨i0, hi0, hz0, hs0, hb0⟩ := info_parts row_info
  obtain ⟨j0, hj0, hy0, ht0, hc0⟩ := info_parts entry_info
  have Hi := hid_ (And.intro hi0 (And.intro hz0 (And.intro hs0 hb0)))
  have Hj := hid_ (And.intro hj0 (And.intro hy0 (And.intro ht0 hc0)))
  have H := hid_ h
  clear hi0 hz0 hs0 hb0 hj0 hy0 ht0 hc0 h
  go_enter Tryd.func53, Tryd.ntmps53
  go_wp2_with (first
    | (at_builtin; refine wpList_append_any _ rfl (.tmp 3) (.tmp 5) 36 rfl w.heap.size 137 i0 _ 2 32 Tryd.underlying36 Hi.out.1 Hi.out.2.1 Hi.out.2.2.1 Hi.out.2.2.2 rfl (by omega) (.slice (some ⟨w.heap.size + 1 + 1, 0, none⟩) 0 0) 0 [] rfl (own_empty_at _ _ _ _ _ (by simp; omega) (by simp)) A R.rows.length c (rwFlat R.rows) rfl (((H.out.r.alloc _).alloc _).alloc _) (rwFlat_one _) (by simp only [maxLen]; omega) (by omega) (by simp; omega) ?_; intro A1 c1 w3 hown3 hgr3; have hp := clone_packA (vr := .slice A R.rows.length c) (ve := .slice B R.ents.length d) H.out hown3 hgr3; have HP := hid_ hp; have e6 : w3.cell? ⟨w.heap.size, 6, none⟩ = some (.slice B R.ents.length d) := hp.k0.cell' rfl; have e5 : w3.cell? ⟨w.heap.size, 5, none⟩ = some (.slice A R.rows.length c) := hp.k0.cell' rfl; have f5 := hp.k0.frozen 5; have l3 := hp.k0.lt; clear hown3 hgr3 hp)
    | (at_builtin; refine wpList_append_any _ rfl (.tmp 8) (.tmp 10) 37 rfl w.heap.size 139 j0 _ 2 24 Tryd.underlying37 Hj.out.1 Hj.out.2.1 Hj.out.2.2.1 Hj.out.2.2.2 rfl (by omega) (.slice (some ⟨w3.heap.size, 0, none⟩) 0 0) 0 [] rfl (own_empty_at _ _ _ _ _ (by simp; omega) (by simp)) B R.ents.length d (etFlat R.ents) rfl (HP.out.rd5 H.out) (etFlat_one _) (by simp only [maxLen]; omega) (by omega) (by simp; omega) ?_; intro A2 c2 w5 hown5 hgr5; have hp := clone_packB HP.out hown5 hgr5; have HQ := hid_ hp; have r0 : w5.cell? ⟨w.heap.size, 0, none⟩ = some (.int .i64 R.kind) := hp.k0.cell' rfl; have r1 : w5.cell? ⟨w.heap.size, 1, none⟩ = some (.string R.low) := hp.k0.cell' rfl; have r2 : w5.cell? ⟨w.heap.size, 2, none⟩ = some (.string R.high) := hp.k0.cell' rfl; have r3 : w5.cell? ⟨w.heap.size, 3, none⟩ = some (.bool R.unb) := hp.k0.cell' rfl; have r4 : w5.cell? ⟨w.heap.size, 4, none⟩ = some (.int .i64 R.right) := hp.k0.cell' rfl; have r5 : w5.cell? ⟨w.heap.size, 5, none⟩ = some (.slice A1 R.rows.length c1) := hp.k0.cell' rfl; have r6 : w5.cell? ⟨w.heap.size, 6, none⟩ = some (.slice B R.ents.length d) := hp.k0.cell' rfl; have r7 : w5.cell? ⟨w.heap.size, 7, none⟩ = some (.string R.key) := hp.k0.cell' rfl; have r8 : w5.cell? ⟨w.heap.size, 8, none⟩ = some (.string R.val) := hp.k0.cell' rfl; have r9 : w5.cell? ⟨w.heap.size, 9, none⟩ = some (.int .i64 R.page) := hp.k0.cell' rfl; have r10 : w5.cell? ⟨w.heap.size, 10, none⟩ = some (.int .i64 R.hpage) := hp.k0.cell' rfl; have r11 : w5.cell? ⟨w.heap.size, 11, none⟩ = some (.int .i64 R.hleft) := hp.k0.cell' rfl; have r12 : w5.cell? ⟨w.heap.size, 12, none⟩ = some (.string R.hkey) := hp.k0.cell' rfl; have r13 : w5.cell? ⟨w.heap.size, 13, none⟩ = some (.int .i64 R.nslot) := hp.k0.cell' rfl; have r14 : w5.cell? ⟨w.heap.size, 14, none⟩ = some (.int .i64 R.ngen) := hp.k0.cell' rfl; have fr6 := hp.k0.frozen 6; have s0 : w5.cell? ⟨w.heap.size + 1, 0, none⟩ = some (.int .i64 0) := hp.k1.cell' rfl; have s1 : w5.cell? ⟨w.heap.size + 1, 1, none⟩ = some (.string nilS) := hp.k1.cell' rfl; have s2 : w5.cell? ⟨w.heap.size + 1, 2, none⟩ = some (.string nilS) := hp.k1.cell' rfl; have s3 : w5.cell? ⟨w.heap.size + 1, 3, none⟩ = some (.bool false) := hp.k1.cell' rfl; have s4 : w5.cell? ⟨w.heap.size + 1, 4, none⟩ = some (.int .i64 0) := hp.k1.cell' rfl; have s5 : w5.cell? ⟨w.heap.size + 1, 5, none⟩ = some (.slice none 0 0) := hp.k1.cell' rfl; have s6 : w5.cell? ⟨w.heap.size + 1, 6, none⟩ = some (.slice none 0 0) := hp.k1.cell' rfl; have s7 : w5.cell? ⟨w.heap.size + 1, 7, none⟩ = some (.string nilS) := hp.k1.cell' rfl; have s8 : w5.cell? ⟨w.heap.size + 1, 8, none⟩ = some (.string nilS) := hp.k1.cell' rfl; have s9 : w5.cell? ⟨w.heap.size + 1, 9, none⟩ = some (.int .i64 0) := hp.k1.cell' rfl; have s10 : w5.cell? ⟨w.heap.size + 1, 10, none⟩ = some (.int .i64 0) := hp.k1.cell' rfl; have s11 : w5.cell? ⟨w.heap.size + 1, 11, none⟩ = some (.int .i64 0) := hp.k1.cell' rfl; have s12 : w5.cell? ⟨w.heap.size + 1, 12, none⟩ = some (.string nilS) := hp.k1.cell' rfl; have s13 : w5.cell? ⟨w.heap.size + 1, 13, none⟩ = some (.int .i64 0) := hp.k1.cell' rfl; have s14 : w5.cell? ⟨w.heap.size + 1, 14, none⟩ = some (.int .i64 0) := hp.k1.cell' rfl; have z0 := hp.k1.frozen 0; have z1 := hp.k1.frozen 1; have z2 := hp.k1.frozen 2; have z3 := hp.k1.frozen 3; have z4 := hp.k1.frozen 4; have z5 := hp.k1.frozen 5; have z6 := hp.k1.frozen 6; have z7 := hp.k1.frozen 7; have z8 := hp.k1.frozen 8; have z9 := hp.k1.frozen 9; have z10 := hp.k1.frozen 10; have z11 := hp.k1.frozen 11; have z12 := hp.k1.frozen 12; have z13 := hp.k1.frozen 13; have z14 := hp.k1.frozen 14; clear hown5 hgr5 hp))
  clear r0 s0 z0 r1 s1 z1 r2 s2 z2 r3 s3 z3 r4 s4 z4 r5 s5 z5 r6 s6 z6 r7 s7 z7 r8 s8 z8 r9 s9 z9 r10 s10 z10 r11 s11 z11 r12 s12 z12 r13 s13 z13 r14 s14 z14 fr6 e5 e6 f5
  have F6 := Fr.only1 w5 ⟨w.heap.size, 6, none⟩ (.slice A2 R.ents.length c2)
  have K1 := HQ.out.k1.fr F6 (only_ne (by simp))
  obtain ⟨qb, qf⟩ := box15 K1 (.int .i64 R.kind) (.string R.low) (.string R.high) (.bool R.unb) (.int .i64 R.right) (.slice A1 R.rows.length c1) (.slice A2 R.ents.length c2) (.string R.key) (.string R.val) (.int .i64 R.page) (.int .i64 R.hpage) (.int .i64 R.hleft) (.string R.hkey) (.int .i64 R.nslot) (.int .i64 R.ngen)
  have q0 := qb.cell' (i := 0) rfl
  have q1 := qb.cell' (i := 1) rfl
  have q2 := qb.cell' (i := 2) rfl
  have q3 := qb.cell' (i := 3) rfl
  have q4 := qb.cell' (i := 4) rfl
  have q5 := qb.cell' (i := 5) rfl
  have q6 := qb.cell' (i := 6) rfl
  have q7 := qb.cell' (i := 7) rfl
  have q8 := qb.cell' (i := 8) rfl
  have q9 := qb.cell' (i := 9) rfl
  have q10 := qb.cell' (i := 10) rfl
  have q11 := qb.cell' (i := 11) rfl
  have q12 := qb.cell' (i := 12) rfl
  have q13 := qb.cell' (i := 13) rfl
  have q14 := qb.cell' (i := 14) rfl
  have O1 := own_fr (own_fr HQ.out.o1 F6 (fun k hk e => own_blk_ne HQ.out.o1 HQ.out.k0 (by decide) (by rw [hk, show k = w.heap.size from e]))) qf (fun k hk e => own_blk_ne HQ.out.o1 HQ.out.k1 (by decide) (by rw [hk, show k = w.heap.size + 1 from e]))
  have O2 := own_fr (own_fr HQ.out.o2 F6 (fun k hk e => own_blk_ne HQ.out.o2 HQ.out.k0 (by decide) (by rw [hk, show k = w.heap.size from e]))) qf (fun k hk e => own_blk_ne HQ.out.o2 HQ.out.k1 (by decide) (by rw [hk, show k = w.heap.size + 1 from e]))
  have G := (HQ.out.f5.then_only F6 (.inr (Nat.le_refl _))).then_only qf (.inr (by omega))
  clear K1 F6 qb qf
  refine bodyPost_ret (v := recV R (.slice A1 R.rows.length c1) (.slice A2 R.ents.length c2)) ?_ rfl ⟨A1, c1, A2, c2, rfl, ⟨O1, O2⟩, G⟩
  simp [results, Tryd.results53, go_sem, q0, q1, q2, q3, q4, q5, q6, q7, q8, q9, q10, q11, q12, q13, q14]
end Go.Proofs.YtfihfjbakfadkaaDoor
namespace Go.Proofs.YtfihfjbakfadkaaDoor
open Go.RowKit
set_option maxRecDepth 100000
set_option linter.unusedVariables false

/-- A slice that holds something lies at an address without a spot. -/
theorem reads_lit {w : World} {size n : Nat} {A : Option Addr} {xs : List Value} (h : Reads w size A n xs) (hs : 0 < size) (hn : 0 < n) : ∃ b off, A = some ⟨b, off, none⟩ ∧ b < w.heap.size ∧ ∀ j u, xs[j]? = some u → w.cell? ⟨b, off + j, none⟩ = some u := by
  obtain ⟨ad, e, hc⟩ := h.2 hn
  have hl : 0 < xs.length := by rw [h.1]; exact Nat.mul_pos hn hs
  have h0 := hc 0 xs[0] (List.getElem?_eq_getElem hl)
  have e0 : ad.add 0 = ad := by simp [Addr.add]
  rw [e0] at h0
  have hspot : ad.spot = none := by
    unfold World.cell? at h0
    split at h0
    · split at h0
      · cases h0
      · rename_i hs; simpa using hs
    · cases h0
  obtain ⟨b, off, sp⟩ := ad
  simp only at hspot
  subst hspot
  exact ⟨b, off, e, World.block_lt_of_cell? w _ h0, fun j u hu => by rw [← add_lit]; exact hc j u hu⟩
theorem et_at {w : World} {A : Option Addr} {L : List Et} (h : Reads w 2 A L.length (etFlat L)) {k : Nat} {p : Et} (hp : L[k]? = some p) : ∃ b off, A = some ⟨b, off, none⟩ ∧ b < w.heap.size ∧ w.cell? ⟨b, off + k * 2, none⟩ = some (.string p.1) ∧ w.cell? ⟨b, off + k * 2 + 1, none⟩ = some (.int .i64 p.2) := by
  obtain ⟨b, off, e, hb, hc⟩ := reads_lit h (by omega) (by have := (List.getElem?_eq_some_iff.1 hp).1; omega)
  obtain ⟨d0, d1⟩ := etFlat_get L k p hp
  exact ⟨b, off, e, hb, hc _ _ d0, hc _ _ d1⟩

end Go.Proofs.YtfihfjbakfadkaaDoor
namespace Go.Proofs.YtfihfjbakfadkaaDoor
open Go

section
variable {P : Program} {md : Region.Mode} {ops : Array Oper} {Q : Exit → Act → World → Prop} {S : World → Prop}
def wpAnyT (P : Program) (md : Region.Mode) (ops : Array Oper) (Q : Exit → Act → World → Prop) (S : World → Prop) (m : Nat) : Nat → Array Bool → Act → World → Prop
  | 0, listed, a, w => Region.ready md ops listed = [] ∧ Q .normal a w
  | fuel + 1, listed, a, w =>
    (Region.ready md ops listed = [] → Q .normal a w) ∧
    ∀ i ∈ Region.ready md ops listed, wpOp P ops Q i (fun a' w' => (i = m ∨ S w') ∧ wpAnyT P md ops Q S m fuel (listed.setIfInBounds i true) a' w') a w
theorem wpAny_of_T {m : Nat} : ∀ (fuel : Nat) (listed : Array Bool) (a : Act) (w : World), wpAnyT P md ops Q S m fuel listed a w → wpAny P md ops Q fuel listed a w
  | 0, _, _, _, h => h
  | fuel + 1, _, _, _, h => ⟨h.1, fun i hi => wpOp_mono (fun a' w' h' => wpAny_of_T fuel _ a' w' h'.2) (h.2 i hi)⟩
/-- A read may be taken first: the last operation waits for it, so S holds behind whatever comes up ahead of it. -/
theorem wpAnyT_first {m i : Nat} {oi : Oper} {v : Value} (hi : ops[i]? = some oi) (hsel : ∀ (j : Nat) (o : Oper) cs b, ops[j]? = some o → o.op ≠ .select cs b)
    (hQ : ∀ c a w, Q (.panic c) (a.put oi.dst v) w → Q (.panic c) a w) (hm : ∃ om, ops[m]? = some om ∧ ∃ e ∈ om.after, Region.binds md e = true ∧ e.on = i) :
    ∀ (fuel : Nat) (listed : Array Bool) (a : Act) (w : World),
      (∀ j oj, ops[j]? = some oj → j ≠ i → listed.getD j true = false → (∀ e ∈ oj.after, Region.binds md e = true → e.on ≠ i) → oi.apart ops oj = true) →
      i ∈ Region.ready md ops listed → YieldsIf P ops S oi v a → S w →
      wpAnyT P md ops Q S m fuel (listed.setIfInBounds i true) (a.put oi.dst v) w → wpAnyT P md ops Q S m (fuel + 1) listed a w := by
  intro fuel
  induction fuel with
  | zero =>
    intro listed a w _ hr hy hS H
    refine ⟨fun h => (by rw [h] at hr; cases hr), fun j hj => ?_⟩
    by_cases hji : j = i
    · subst hji; exact hy.wpOp hi hS ⟨.inr hS, H⟩
    · have := ready_mono hj hji
      rw [H.1] at this
      cases this
  | succ fuel ih =>
    intro listed a w hfree hr hy hS H
    refine ⟨fun h => (by rw [h] at hr; cases hr), fun j hj => ?_⟩
    by_cases hji : j = i
    · subst hji; exact hy.wpOp hi hS ⟨.inr hS, H⟩
    · have h1 := H.2 j (ready_mono hj hji)
      obtain ⟨hjun, oj, hoj, hall⟩ := mem_ready.1 hj
      have hnot : ∀ e ∈ oj.after, Region.binds md e = true → e.on ≠ i := fun e he hb heq => by
        have h1 := hall e he hb
        have h0 := (mem_ready.1 hr).1
        rw [heq] at h1
        rcases Nat.lt_or_ge i listed.size with h' | h'
        · simp [h'] at h0 h1; rw [h0] at h1; cases h1
        · simp [Array.getElem?_eq_none h'] at h1
      have hjm : j ≠ m := by
        rintro rfl
        obtain ⟨om, hom, e, he, hb, heq⟩ := hm
        obtain rfl := Option.some.inj (hoj.symm.trans hom)
        exact hnot e he hb heq
      have h2 := wpOp_putIf hoj (hfree j oj hoj hji hjun hnot) (fun cs b => hsel i oi cs b hi) (fun cs b => hsel j oj cs b hoj) hQ hy h1
      have hfree' : ∀ k ok, ops[k]? = some ok → k ≠ i → (listed.setIfInBounds j true).getD k true = false →
          (∀ e ∈ ok.after, Region.binds md e = true → e.on ≠ i) → oi.apart ops ok = true := fun k ok hk hki hun hno => by
        refine hfree k ok hk hki ?_ hno
        by_cases hjk : j = k
        · subst hjk; exact hjun
        · rw [getD_set_ne true hjk] at hun; exact hun
      refine wpOp_mono (fun a' w' h3 => ?_) h2
      have hs : S w' := h3.2.1.resolve_left hjm
      refine ⟨.inr hs, ih (listed.setIfInBounds j true) a' w' hfree' (ready_mono hr (Ne.symm hji)) h3.1 hs ?_⟩
      rw [Array.setIfInBounds_comm _ _ hji]
      exact h3.2.2
/-- Take number i first (the side conditions as Bools). -/
theorem wpAnyT_take {m i : Nat} {oi : Oper} {v : Value} {fuel : Nat} {listed : Array Bool} {a : Act} {w : World} (hi : ops[i]? = some oi)
    (hs : Region.noSelect ops = true) (hf : Region.free md ops listed i = true) (hr : (Region.ready md ops listed).contains i = true)
    (hm : (ops[m]?.any fun om => om.after.any fun e => Region.binds md e && e.on == i) = true)
    (hQ : ∀ c a w, Q (.panic c) (a.put oi.dst v) w → Q (.panic c) a w) (hy : YieldsIf P ops S oi v a) (hS : S w)
    (h : wpAnyT P md ops Q S m fuel (listed.setIfInBounds i true) (a.put oi.dst v) w) : wpAnyT P md ops Q S m (fuel + 1) listed a w :=
  wpAnyT_first hi (Region.noSelect_spec hs) hQ (by
    cases ho : ops[m]? with
    | none => rw [ho] at hm; cases hm
    | some om =>
      rw [ho] at hm
      have hm' : (om.after.any fun e => Region.binds md e && e.on == i) = true := hm
      obtain ⟨e, he, hb⟩ := Array.any_eq_true'.1 hm'
      simp at hb
      exact ⟨om, rfl, e, he, hb.1, hb.2⟩) fuel listed a w (Region.free_spec hi hf) (by simpa using hr) hy hS h
/-- Whatever has come up, all that it waits for has come up. -/
def closedB (md : Region.Mode) (ops : Array Oper) (listed : Array Bool) : Bool :=
  (List.range ops.size).all fun k => !listed.getD k false || (match ops[k]? with | some o => o.after.all fun e => !Region.binds md e || listed.getD e.on false | none => true)
/-- Does m wait for i, by whatever way? -/
def waitsB (md : Region.Mode) (ops : Array Oper) : Nat → Nat → Nat → Bool
  | 0, _, _ => false
  | f + 1, m, i => match ops[m]? with | some o => o.after.any fun e => Region.binds md e && (e.on == i || waitsB md ops f e.on i) | none => false
def Closed (md : Region.Mode) (ops : Array Oper) (listed : Array Bool) : Prop := ∀ k o, ops[k]? = some o → listed.getD k false = true → ∀ e ∈ o.after, Region.binds md e = true → listed.getD e.on false = true
theorem closed_of {listed : Array Bool} (h : closedB md ops listed = true) : Closed md ops listed := by
  intro k o ho hl e he hb
  have hk : k < ops.size := (Array.getElem?_eq_some_iff.1 ho).1
  have := List.all_eq_true.1 h k (List.mem_range.2 hk)
  rw [ho, hl] at this
  simp only [Bool.not_true, Bool.false_or] at this
  have := Array.all_eq_true'.1 this e he
  simpa [hb] using this
theorem getD_set_true {listed : Array Bool} {j k : Nat} (h : listed.getD k false = true) : (listed.setIfInBounds j true).getD k false = true := by
  by_cases e : j = k
  · subst e
    rcases Nat.lt_or_ge j listed.size with h' | h'
    · simp [h']
    · simp [Array.getElem?_eq_none h'] at h
  · simp [e] at h ⊢
    exact h
theorem Closed.set {listed : Array Bool} (h : Closed md ops listed) {j : Nat} (hj : j ∈ Region.ready md ops listed) : Closed md ops (listed.setIfInBounds j true) := by
  obtain ⟨hjun, oj, hoj, hall⟩ := mem_ready.1 hj
  intro k o ho hl e he hb
  by_cases hkj : j = k
  · subst hkj
    obtain rfl := Option.some.inj (hoj.symm.trans ho)
    exact getD_set_true (hall e he hb)
  · refine getD_set_true (h k o ho ?_ e he hb)
    simpa [hkj] using hl
theorem Closed.waits {listed : Array Bool} (h : Closed md ops listed) : ∀ {f k i : Nat}, listed.getD k false = true → waitsB md ops f k i = true → listed.getD i false = true
  | 0, _, _, _, hw => by simp [waitsB] at hw
  | f + 1, k, i, hl, hw => by
    rw [waitsB] at hw
    split at hw
    · rename_i o ho
      obtain ⟨e, he, hb⟩ := Array.any_eq_true'.1 hw
      simp only [Bool.and_eq_true, Bool.or_eq_true, beq_iff_eq] at hb
      have h1 := h k o ho hl e he hb.1
      rcases hb.2 with rfl | h2
      · exact h1
      · exact h.waits h1 h2
    · cases hw
theorem ready_waits {listed : Array Bool} (h : Closed md ops listed) {f m i : Nat} (hm : m ∈ Region.ready md ops listed) (hw : waitsB md ops f m i = true) (hi : i ∈ Region.ready md ops listed) : False := by
  obtain ⟨hmun, om, hom, hall⟩ := mem_ready.1 hm
  have hi0 := (mem_ready.1 hi).1
  have h1 : listed.getD i false = true := by
    cases f with
    | zero => simp [waitsB] at hw
    | succ f =>
      rw [waitsB, hom] at hw
      obtain ⟨e, he, hb⟩ := Array.any_eq_true'.1 hw
      simp only [Bool.and_eq_true, Bool.or_eq_true, beq_iff_eq] at hb
      have h2 := hall e he hb.1
      rcases hb.2 with rfl | h3
      · exact h2
      · exact h.waits h2 h3
  rcases Nat.lt_or_ge i listed.size with h' | h'
  · simp [h'] at hi0 h1
    rw [hi0] at h1
    cases h1
  · simp [Array.getElem?_eq_none h'] at hi0
theorem wpAnyT_all {m : Nat} {rs : List Nat} {fuel : Nat} {listed : Array Bool} {a : Act} {w : World} (hr : Region.ready md ops listed = rs) (hne : rs ≠ [])
    (h : ∀ i ∈ rs, wpOp P ops Q i (fun a' w' => (i = m ∨ S w') ∧ wpAnyT P md ops Q S m fuel (listed.setIfInBounds i true) a' w') a w) : wpAnyT P md ops Q S m (fuel + 1) listed a w :=
  ⟨fun h0 => absurd (hr ▸ h0) hne, hr ▸ h⟩
/-- The one operation that is ready. -/
theorem wpAnyT_one {m i : Nat} {oi : Oper} {fuel : Nat} {listed : Array Bool} {a : Act} {w : World} (hi : ops[i]? = some oi) (hg : oi.guard = none) (hr : Region.ready md ops listed = [i])
    (h : Oper.wp P oi a w (fun a' w' => (i = m ∨ S w') ∧ wpAnyT P md ops Q S m fuel (listed.setIfInBounds i true) a' w') Q) : wpAnyT P md ops Q S m (fuel + 1) listed a w := by
  refine wpAnyT_all hr (by simp) (fun j hj => ?_)
  obtain rfl : j = i := by simpa using hj
  unfold wpOp
  have hw : Region.wanted oi (yielded ops a.tmps) = true := by simp [Region.wanted, hg]
  simp only [hi, hw, if_true]
  exact .inl h
theorem wpAnyT_done {m : Nat} {listed : Array Bool} {a : Act} {w : World} (hr : Region.ready md ops listed = []) (h : Q .normal a w) : ∀ fuel, wpAnyT P md ops Q S m fuel listed a w
  | 0 => ⟨hr, h⟩
  | _ + 1 => ⟨fun _ => h, by rw [hr]; simp⟩
theorem wp_region_T {id m : Nat} {a : Act} {w : World} (hm : P.follows .mixedOrders = true)
    (h : wpAnyT P .any ops Q S m ops.size (Array.replicate ops.size false) a w.drew) : (Code.region id ops true).wp P Q a w :=
  wp_region_any hm (wpAny_of_T _ _ _ _ h)
end
end Go.Proofs.YtfihfjbakfadkaaDoor
namespace Go.Proofs.YtfihfjbakfadkaaDoor
open Go.RowKit
set_option linter.unusedVariables false

/-- Cells written one behind the other. -/
def setA (cs : Array Value) (o : Nat) : List Value → Array Value
  | [] => cs
  | v :: r => setA (cs.setIfInBounds o v) (o + 1) r
theorem setA_size : ∀ (vs : List Value) (cs : Array Value) (o : Nat), (setA cs o vs).size = cs.size
  | [], cs, o => rfl
  | v :: r, cs, o => by rw [setA, setA_size r]; simp
theorem setA_out : ∀ (vs : List Value) (cs : Array Value) (o k : Nat), (k < o ∨ o + vs.length ≤ k) → (setA cs o vs)[k]? = cs[k]?
  | [], cs, o, k, h => rfl
  | v :: r, cs, o, k, h => by
    rw [setA, setA_out r _ _ _ (by simp at h; omega), Array.getElem?_setIfInBounds_ne (by simp at h; omega)]
theorem setA_in : ∀ (vs : List Value) (cs : Array Value) (o j : Nat) (v : Value), vs[j]? = some v → o + j < cs.size → (setA cs o vs)[o + j]? = some v
  | [], cs, o, j, v, h, _ => by simp at h
  | u :: r, cs, o, 0, v, h, hl => by
    obtain rfl : u = v := by simpa using h
    rw [setA, setA_out r _ _ _ (by omega)]
    have hl' : o < cs.size := by omega
    show (cs.setIfInBounds o u)[o]? = some u
    simp [hl']
  | u :: r, cs, o, j + 1, v, h, hl => by
    have := setA_in r (cs.setIfInBounds o u) (o + 1) j v (by simpa using h) (by simp; omega)
    rw [setA, show o + (j + 1) = o + 1 + j by omega]
    exact this
theorem Blk.setCells {g : Nat} {t : TypeId} : ∀ (vs : List Value) (o : Nat) (cs : Array Value) (w : World), Blk w g t cs → Blk (w.setCells g o vs) g t (setA cs o vs)
  | [], o, cs, w, h => h
  | v :: r, o, cs, w, h => Blk.setCells r (o + 1) _ _ (h.set_ o v)
theorem Fr.setCells {g : Nat} {S : Nat → Prop} {a : World} : ∀ (vs : List Value) (o : Nat) (w : World), Fr S a w → (S g ∨ a.heap.size ≤ g) → Fr S a (w.setCells g o vs)
  | [], o, w, h, _ => h
  | v :: r, o, w, h, hs => Fr.setCells r (o + 1) _ (h.setCell (p := ⟨g, o, none⟩) hs v) hs
theorem new_there (w : World) (t : TypeId) (cs : Array Value) : (w.alloc (.cells cs t)).there w.heap.size 0 cs.size := by
  intro j hj
  have hb := Blk.new w t cs
  refine ⟨?_, hb.frozen _⟩
  rw [hb.cell, Nat.zero_add, Array.getElem?_eq_getElem hj]
  rfl
theorem new_copy (w : World) (t : TypeId) (zs : Array Value) (vs : List Value) (hz : zs.size = vs.length) : Blk ((w.alloc (.cells zs t)).setCells w.heap.size 0 vs) w.heap.size t vs.toArray ∧ Fr none_ w ((w.alloc (.cells zs t)).setCells w.heap.size 0 vs) := by
  refine ⟨?_, Fr.setCells _ _ _ ((Fr.refl none_ w).alloc _) (.inr (Nat.le_refl _))⟩
  have h := Blk.setCells vs 0 _ _ (Blk.new w t zs)
  have e : setA zs 0 vs = vs.toArray := by
    apply Array.ext_getElem?
    intro k
    rcases Nat.lt_or_ge k vs.length with h1 | h1
    · have := setA_in vs zs 0 k vs[k] (List.getElem?_eq_getElem h1) (by omega)
      rw [Nat.zero_add] at this
      rw [this, List.getElem?_toArray, List.getElem?_eq_getElem h1]
    · rw [Array.getElem?_eq_none (by rw [setA_size]; omega), Array.getElem?_eq_none (by simpa using h1)]
  rwa [e] at h
end Go.Proofs.YtfihfjbakfadkaaDoor
namespace Go.Proofs.YtfihfjbakfadkaaDoor
open Go.RowKit
set_option maxRecDepth 100000
set_option linter.unusedVariables false

structure Sl where
  gen : Int
  used : Bool
  R : Rc
  vr : Value
  ve : Value
abbrev slL (s : Sl) : List Value := [.int .i64 s.gen, .bool s.used, .int .i64 s.R.kind, .string s.R.low, .string s.R.high, .bool s.R.unb, .int .i64 s.R.right, s.vr, s.ve, .string s.R.key, .string s.R.val, .int .i64 s.R.page, .int .i64 s.R.hpage, .int .i64 s.R.hleft, .string s.R.hkey, .int .i64 s.R.nslot, .int .i64 s.R.ngen]
def Sl.zero : Sl := ⟨0, false, Rc.zero, .slice none 0 0, .slice none 0 0⟩
def SlCells (cs : Array Value) (ss : List Sl) : Prop := cs.size = ss.length * 17 ∧ ∀ i s, ss[i]? = some s → ∀ j v, (slL s)[j]? = some v → cs[i * 17 + j]? = some v

theorem SlCells.set_ {cs : Array Value} {ss : List Sl} (h : SlCells cs ss) {i : Nat} (s : Sl) (hi : i < ss.length) : SlCells (setA cs (i * 17) (slL s)) (ss.set i s) := by
  refine ⟨by rw [setA_size, h.1]; simp, fun k t hk j v hj => ?_⟩
  have hjl : j < 17 := by have := (List.getElem?_eq_some_iff.1 hj).1; simpa using this
  rw [List.getElem?_set] at hk
  split at hk
  · subst_vars
    obtain rfl : s = t := by simpa using hk
    exact setA_in _ _ _ j v hj (by rw [h.1]; omega)
  · rename_i hne
    rw [setA_out _ _ _ _ (by simp; omega)]
    exact h.2 k t hk j v hj

structure Ar (w : World) (a G : Nat) (last : Int) (ss : List Sl) : Prop where
  hA : Blk w a 143 #[.slice (some ⟨G, 0, none⟩) ss.length ss.length, .int .i64 last]
  hG : ∃ cs, Blk w G 152 cs ∧ SlCells cs ss
  own : ∀ (i : Nat) (s : Sl), ss[i]? = some s → RecOwn w 0 s.R s.vr s.ve
  l40 : last ≤ 1099511627776
  len : ss.length ≤ 4096
  gen : ∀ s ∈ ss, 0 ≤ s.gen ∧ s.gen ≤ last
  sz : ∀ s ∈ ss, s.R.rows.length ≤ 1000 ∧ s.R.ents.length ≤ 1000
section
variable {w w' : World} {a G : Nat} {last : Int} {ss : List Sl}
theorem Ar.keep (h : Ar w a G last ss) (hf : Fr none_ w w') : Ar w' a G last ss := by
  obtain ⟨cs, hG, hc⟩ := h.hG
  exact ⟨h.hA.fr hf id, ⟨cs, hG.fr hf id, hc⟩, fun i s hs => (h.own i s hs).keep hf, h.l40, h.len, h.gen, h.sz⟩
theorem Ar.ltA (h : Ar w a G last ss) : a < w.heap.size := h.hA.lt
theorem Ar.ltG (h : Ar w a G last ss) : G < w.heap.size := by obtain ⟨cs, hG, hc⟩ := h.hG; exact hG.lt
theorem Ar.ne (h : Ar w a G last ss) : a ≠ G := by obtain ⟨cs, hG, hc⟩ := h.hG; exact Blk.ne_ h.hA hG (by decide)
/-- A cell of a slot. -/
theorem Ar.cell (h : Ar w a G last ss) {i : Nat} {s : Sl} (hs : ss[i]? = some s) (j : Nat) {v : Value} (hv : (slL s)[j]? = some v) : w.cell? ⟨G, i * 17 + j, none⟩ = some v := by
  obtain ⟨cs, hG, hc⟩ := h.hG
  exact hG.cell' (hc.2 i s hs j v hv)
theorem Ar.frozen (h : Ar w a G last ss) (o : Nat) : w.frozen? ⟨G, o, none⟩ = false := by
  obtain ⟨cs, hG, hc⟩ := h.hG
  exact hG.frozen o
/-- Where a block of another type was turned. -/
theorem Ar.beside (h : Ar w a G last ss) {g : Nat} {t : TypeId} {cs : Array Value} (hf : Fr (only g) w w') (hg : Blk w g t cs) (h1 : 137 ≠ t) (h2 : 139 ≠ t) (h3 : a ≠ g) (h4 : G ≠ g) : Ar w' a G last ss := by
  obtain ⟨cs, hG, hc⟩ := h.hG
  exact ⟨h.hA.fr hf (only_ne h3), ⟨cs, hG.fr hf (only_ne h4), hc⟩, fun i s hs => (h.own i s hs).only hf hg h1 h2, h.l40, h.len, h.gen, h.sz⟩
/-- A slot was written. -/
theorem Ar.put (h : Ar w a G last ss) {i : Nat} {s : Sl} (hi : i < ss.length) (hf : Fr (only G) w w') (hb : ∀ cs, Blk w G 152 cs → Blk w' G 152 (setA cs (i * 17) (slL s))) (ho : RecOwn w' 0 s.R s.vr s.ve) (hg : 0 ≤ s.gen ∧ s.gen ≤ last) (hz : s.R.rows.length ≤ 1000 ∧ s.R.ents.length ≤ 1000) : Ar w' a G last (ss.set i s) := by
  have hne := h.ne
  obtain ⟨cs, hG, hc⟩ := h.hG
  refine ⟨by rw [List.length_set]; exact h.hA.fr hf (only_ne hne), ⟨_, hb cs hG, hc.set_ s hi⟩, fun k t hk => ?_, h.l40, by rw [List.length_set]; exact h.len, fun t ht => ?_, fun t ht => ?_⟩
  · rw [List.getElem?_set] at hk
    split at hk
    · obtain rfl : s = t := by simpa using hk
      exact ho
    · exact (h.own k t hk).only hf hG (by decide) (by decide)
  · rcases List.mem_or_eq_of_mem_set ht with ht | rfl
    · exact h.gen t ht
    · exact hg
  · rcases List.mem_or_eq_of_mem_set ht with ht | rfl
    · exact h.sz t ht
    · exact hz
end

theorem slot_info : (Tryd.prog.info? 152).map (fun i => (i.zero, i.size, i.bytes)) = some (some (.agg (slL Sl.zero).toArray), 17, 208) := by kernel_rfl
theorem made_slots (n : Nat) : SlCells (madeCells (slL Sl.zero).toArray (n * 17)) (List.replicate n Sl.zero) := by
  refine ⟨by rw [size_madeCells, List.length_replicate], fun i s hs j v hv => ?_⟩
  have hjl : j < 17 := by have := (List.getElem?_eq_some_iff.1 hv).1; simpa using this
  rw [List.getElem?_replicate] at hs
  split at hs
  · rename_i hin
    obtain rfl : Sl.zero = s := by simpa using hs
    have hm : (i * 17 + j) % 17 = j := by omega
    have hz : (slL Sl.zero).toArray.size = 17 := rfl
    have hlt : i * 17 + j < n * 17 := by omega
    unfold madeCells
    rw [Array.getElem?_map, Array.getElem?_range, if_pos hlt]
    simp only [Option.map_some, hz, hm]
    rw [List.getElem?_eq_some_iff] at hv
    obtain ⟨h1, h2⟩ := hv
    rw [← h2]
    congr 1
    exact getElem!_pos _ _ _
  · cases hs
def NewAr (n : Nat) (last : Int) (w : World) (e : Ending) (w' : World) : Prop :=
  ∃ a G, e = .returned (.pointer (some ⟨a, 0, none⟩)) ∧ Ar w' a G last (List.replicate n Sl.zero) ∧ Fr none_ w w' ∧ w.heap.size ≤ a ∧ w.heap.size ≤ G
theorem arNew_ok (n : Nat) (last : Int) (w : World) (h1 : 1 ≤ n) (h2 : n ≤ 4096) (h3 : 1 ≤ last) (h4 : last ≤ 1099511627776) : Calls Tryd.prog 29 #[.int .i64 n, .int .i64 last] w (NewAr n last w) := by
  obtain ⟨i0, hi0, hz0, hs0, hb0⟩ := info_parts slot_info
  have hmk := fun W : World => run_make (P := Tryd.prog) W 141 152 i0 _ Tryd.underlying141 hi0 hz0 .i64 .i64 (n : Int) (n : Int) (by omega) (by omega) (by rw [hb0]; omega) (by omega)
  rw [hs0] at hmk
  simp only [Int.toNat_natCast] at hmk
  clear hi0 hz0 hs0 hb0
  go_enter Tryd.func29, Tryd.ntmps29
  go_wp2_with fail
  go_ret
  have hf : Fr none_ w ((w.alloc (.cells (madeCells (slL Sl.zero).toArray (n * 17)) 152)).alloc (.cells #[.slice (some ⟨w.heap.size, 0, none⟩) n n, .int .i64 last] 143)) := ((Fr.refl none_ w).alloc _).alloc _
  have hm : ∀ s ∈ List.replicate n Sl.zero, s = Sl.zero := fun s hs => List.eq_of_mem_replicate hs
  refine ⟨w.heap.size + 1, w.heap.size, rfl, ⟨?_, ⟨madeCells (slL Sl.zero).toArray (n * 17), ?_, made_slots n⟩, fun i s hs => ?_, h4, ?_, fun s hs => ?_, fun s hs => ?_⟩, hf, by omega, by omega⟩
  · have h0 := Blk.new (w.alloc (.cells (madeCells (slL Sl.zero).toArray (n * 17)) 152)) 143 #[.slice (some ⟨w.heap.size, 0, none⟩) n n, .int .i64 last]
    rw [World.size_alloc] at h0
    rw [List.length_replicate]
    exact h0
  · exact (Blk.new w 152 _).alloc _
  · rw [hm s (List.mem_of_getElem? hs)]
    exact RecOwn.zero _ 0
  · rw [List.length_replicate]; omega
  · rw [hm s hs]; exact ⟨by decide, by show (0 : Int) ≤ last; omega⟩
  · rw [hm s hs]; exact ⟨by decide, by decide⟩
end Go.Proofs.YtfihfjbakfadkaaDoor
namespace Go.Proofs.YtfihfjbakfadkaaDoor
open Go.RowKit

/-- A page: is it used, and its head. -/
abbrev Pg := Bool × Int × Int

theorem eql_ref (s g a b : Int) (w : World) : (binOp .eql 25 (.agg #[.int .i64 s, .int .i64 g]) (.agg #[.int .i64 a, .int .i64 b])).run Tryd.prog w = .ok (.bool (s == a && g == b)) w := by
  have h : (Op.equal 25 (.agg #[.int .i64 s, .int .i64 g]) (.agg #[.int .i64 a, .int .i64 b])).run Tryd.prog w = .ok (s == a && g == b) w := by
    simp only [Op.equal, Op.maxDepth]
    by_cases h1 : s = a <;> by_cases h2 : g = b <;> go_simp <;> simp [h1, h2]
  simp [binOp, h]
theorem neq_ref (s g a b : Int) (w : World) : (binOp .neq 25 (.agg #[.int .i64 s, .int .i64 g]) (.agg #[.int .i64 a, .int .i64 b])).run Tryd.prog w = .ok (.bool (!(s == a && g == b))) w := by
  have h : (Op.equal 25 (.agg #[.int .i64 s, .int .i64 g]) (.agg #[.int .i64 a, .int .i64 b])).run Tryd.prog w = .ok (s == a && g == b) w := by
    simp only [Op.equal, Op.maxDepth]
    by_cases h1 : s = a <;> by_cases h2 : g = b <;> go_simp <;> simp [h1, h2]
  simp [binOp, h]

structure TblAt (w : World) (T G cap : Nat) (cur : Array Value) (ps : List Pg) : Prop where
  hT : Blk w T 146 #[.slice (some ⟨G, 0, none⟩) ps.length cap]
  hG : Blk w G 154 cur
  hn : ps.length ≤ 256
  hc : ps.length ≤ cap
  hm : cap ≤ maxLen
  hs : ps.length * 3 ≤ cur.size
  hp : ∀ i p, ps[i]? = some p → cur[i * 3]? = some (.bool p.1) ∧ cur[i * 3 + 1]? = some (.int .i64 p.2.1) ∧ cur[i * 3 + 1 + 1]? = some (.int .i64 p.2.2)
def Tbl (w : World) (T G : Nat) (ps : List Pg) : Prop := ∃ cap cur, TblAt w T G cap cur ps

theorem mapAt_arg (T G : Nat) (ps : List Pg) (n : Int) (w : World) (h : Tbl w T G ps) (hn : n < 0 ∨ (ps.length : Int) ≤ n) :
    Calls Tryd.prog 62 #[.pointer (some ⟨T, 0, none⟩), .int .i64 n] w fun e w' => e = .returned (.tuple #[.pointer none, errV 1]) ∧ w = w' := by
  obtain ⟨cap, cur, hT, hG, h1, h2, h3, h4, h5⟩ := h
  have c0 := hT.cell' (i := 0) rfl
  clear hT hG h5
  by_cases hn0 : n < 0
  · clear hn
    go_enter Tryd.func62, Tryd.ntmps62
    go_wp2
    go_ret2
    exact ⟨rfl, rfl⟩
  · have hle : (ps.length : Int) ≤ n := by omega
    clear hn
    go_enter Tryd.func62, Tryd.ntmps62
    go_wp2
    go_ret2
    exact ⟨rfl, rfl⟩

theorem mapAt_ok (T G : Nat) (ps : List Pg) (i : Nat) (s g : Int) (w : World) (h : Tbl w T G ps) (hi : ps[i]? = some (true, s, g)) :
    Calls Tryd.prog 62 #[.pointer (some ⟨T, 0, none⟩), .int .i64 i] w fun e w' => e = .returned (.tuple #[.pointer (some ⟨G, i * 3, none⟩), .nilIface]) ∧ w = w' := by
  obtain ⟨cap, cur, hT, hG, h1, h2, h3, h4, h5⟩ := h
  obtain ⟨d0, d1, d2⟩ := h5 i _ hi
  have c0 := hT.cell' (i := 0) rfl
  have c1 := hG.cell' d0
  have c2 := hG.cell' d1
  have c3 := hG.cell' d2
  have hlt : i < ps.length := (List.getElem?_eq_some_iff.1 hi).1
  clear hT hG h5 d0 d1 d2 hi
  go_enter Tryd.func62, Tryd.ntmps62
  go_wp2
  go_ret2
  exact ⟨rfl, rfl⟩

theorem mapAt_none (T G : Nat) (ps : List Pg) (i : Nat) (s g : Int) (w : World) (h : Tbl w T G ps) (hi : ps[i]? = some (false, s, g)) :
    Calls Tryd.prog 62 #[.pointer (some ⟨T, 0, none⟩), .int .i64 i] w fun e w' => e = .returned (.tuple #[.pointer none, errV 6]) ∧ w = w' := by
  obtain ⟨cap, cur, hT, hG, h1, h2, h3, h4, h5⟩ := h
  obtain ⟨d0, d1, d2⟩ := h5 i _ hi
  have c0 := hT.cell' (i := 0) rfl
  have c1 := hG.cell' d0
  have c2 := hG.cell' d1
  have c3 := hG.cell' d2
  have hlt : i < ps.length := (List.getElem?_eq_some_iff.1 hi).1
  clear hT hG h5 d0 d1 d2 hi
  go_enter Tryd.func62, Tryd.ntmps62
  go_wp2
  all_goals
    go_ret2
    exact ⟨rfl, rfl⟩

def setPg (w : World) (G i : Nat) (p : Pg) : World := ((w.setCell ⟨G, i * 3, none⟩ (.bool p.1)).setCell ⟨G, i * 3 + 1, none⟩ (.int .i64 p.2.1)).setCell ⟨G, i * 3 + 1 + 1, none⟩ (.int .i64 p.2.2)

theorem Tbl.ne_ {w : World} {T G : Nat} {ps : List Pg} (h : Tbl w T G ps) : T ≠ G := by
  obtain ⟨cap, cur, hT, hG, _⟩ := h
  exact Blk.ne_ hT hG (by decide)

theorem Tbl.lt {w : World} {T G : Nat} {ps : List Pg} (h : Tbl w T G ps) : T < w.heap.size ∧ G < w.heap.size := by
  obtain ⟨cap, cur, hT, hG, _⟩ := h
  exact ⟨hT.lt, hG.lt⟩

theorem Tbl.set_ {w : World} {T G : Nat} {ps : List Pg} (h : Tbl w T G ps) {i : Nat} (hi : i < ps.length) (p : Pg) : Tbl (setPg w G i p) T G (ps.set i p) := by
  have hne := h.ne_
  obtain ⟨cap, cur, hT, hG, h1, h2, h3, h4, h5⟩ := h
  refine ⟨cap, ((cur.setIfInBounds (i * 3) (.bool p.1)).setIfInBounds (i * 3 + 1) (.int .i64 p.2.1)).setIfInBounds (i * 3 + 1 + 1) (.int .i64 p.2.2), ?_, ?_, by simpa using h1, by simpa using h2, h3, by simpa using h4, ?_⟩
  · rw [List.length_set]
    exact ((hT.far hne _).far hne _).far hne _
  · exact ((hG.set_ _ _).set_ _ _).set_ _ _
  · intro j q hj
    by_cases hji : j = i
    · subst hji
      rw [List.getElem?_set_self hi] at hj
      obtain rfl : p = q := by simpa using hj
      have e0 : j * 3 + 1 + 1 < cur.size := by omega
      refine ⟨?_, ?_, ?_⟩ <;> grind
    · rw [List.getElem?_set_ne (fun e => hji e.symm)] at hj
      obtain ⟨d0, d1, d2⟩ := h5 j q hj
      refine ⟨?_, ?_, ?_⟩ <;> grind

theorem Tbl.set_head {w : World} {T G : Nat} {ps : List Pg} (h : Tbl w T G ps) {i : Nat} {b : Bool} {s g : Int} (hi : ps[i]? = some (b, s, g)) (c d : Int) :
    Tbl ((w.setCell ⟨G, i * 3 + 1, none⟩ (.int .i64 c)).setCell ⟨G, i * 3 + 1 + 1, none⟩ (.int .i64 d)) T G (ps.set i (b, c, d)) := by
  have hne := h.ne_
  have hlt : i < ps.length := (List.getElem?_eq_some_iff.1 hi).1
  obtain ⟨cap, cur, hT, hG, h1, h2, h3, h4, h5⟩ := h
  refine ⟨cap, (cur.setIfInBounds (i * 3 + 1) (.int .i64 c)).setIfInBounds (i * 3 + 1 + 1) (.int .i64 d), ?_, ?_, by simpa using h1, by simpa using h2, h3, by simpa using h4, ?_⟩
  · rw [List.length_set]
    exact (hT.far hne _).far hne _
  · exact (hG.set_ _ _).set_ _ _
  · intro j q hj
    by_cases hji : j = i
    · subst hji
      rw [List.getElem?_set_self hlt] at hj
      obtain rfl : (b, c, d) = q := by simpa using hj
      obtain ⟨d0, d1, d2⟩ := h5 j _ hi
      have e0 : j * 3 + 1 + 1 < cur.size := by omega
      refine ⟨?_, ?_, ?_⟩ <;> grind
    · rw [List.getElem?_set_ne (fun e => hji e.symm)] at hj
      obtain ⟨d0, d1, d2⟩ := h5 j q hj
      refine ⟨?_, ?_, ?_⟩ <;> grind

theorem Tbl.fr {w w' : World} {S : Nat → Prop} {T G : Nat} {ps : List Pg} (h : Tbl w T G ps) (hf : Fr S w w') (hT : ¬ S T) (hG : ¬ S G) : Tbl w' T G ps := by
  obtain ⟨cap, cur, a, b, h1, h2, h3, h4, h5⟩ := h
  exact ⟨cap, cur, a.fr hf hT, b.fr hf hG, h1, h2, h3, h4, h5⟩

theorem setPg_fr {S : Nat → Prop} {a w : World} (h : Fr S a w) {G : Nat} (hG : S G ∨ a.heap.size ≤ G) (i : Nat) (p : Pg) : Fr S a (setPg w G i p) := ((h.setCell hG _).setCell hG _).setCell hG _

theorem setPg_only (w : World) (G i : Nat) (p : Pg) : Fr (only G) w (setPg w G i p) := setPg_fr (Fr.refl (only G) w) (.inl (Eq.refl G)) i p

theorem head_err (o : Option Addr) (n : Int) (k : Int) (w : World)
    (hat : ∀ w1 : World, Fr none_ w w1 → Calls Tryd.prog 62 #[.pointer o, .int .i64 n] w1 fun e w' => e = .returned (.tuple #[.pointer none, errV k]) ∧ w1 = w') :
    Calls Tryd.prog 44 #[.pointer o, .int .i64 n] w fun e w' => e = .returned (.tuple #[.agg #[.int .i64 0, .int .i64 0], errV k]) ∧ Fr none_ w w' := by
  have H := hid_ hat
  clear hat
  go_enter Tryd.func44, Tryd.ntmps44
  go_wp2_with (go_at_call 62; refine (H.out _ ((Fr.refl _ _).alloc _)).mono ?_; rintro e w' ⟨rfl, rfl⟩)
  exact bodyPost_ret (v := .tuple #[.agg #[.int .i64 0, .int .i64 0], errV k]) (by simp [results, Tryd.results44, go_sem]) rfl ⟨rfl, (Fr.refl _ _).alloc _⟩

theorem head_ok (T G : Nat) (ps : List Pg) (i : Nat) (s g : Int) (w : World) (h : Tbl w T G ps) (hi : ps[i]? = some (true, s, g)) :
    Calls Tryd.prog 44 #[.pointer (some ⟨T, 0, none⟩), .int .i64 i] w fun e w' => e = .returned (.tuple #[.agg #[.int .i64 s, .int .i64 g], .nilIface]) ∧ Fr none_ w w' := by
  have h' := h
  obtain ⟨cap, cur, hT, hG, h1, h2, h3, h4, h5⟩ := h
  obtain ⟨d0, d1, d2⟩ := h5 i _ hi
  have c2 := hG.cell' d1
  have c3 := hG.cell' d2
  have hlt := hG.lt
  have H := hid_ h'
  have Hi := hid_ hi
  clear hT hG h5 d0 d1 d2 h' hi
  go_enter Tryd.func44, Tryd.ntmps44
  go_wp2_with (go_at_call 62; refine (mapAt_ok T G ps i s g _ (H.out.fr ((Fr.refl none_ _).alloc _) id id) Hi.out).mono ?_; rintro e w' ⟨rfl, rfl⟩)
  exact bodyPost_ret (v := .tuple #[.agg #[.int .i64 s, .int .i64 g], .nilIface]) (by simp [results, Tryd.results44, go_sem]) rfl ⟨rfl, (Fr.refl _ _).alloc _⟩

theorem swap_err (o : Option Addr) (n : Int) (k a b c d : Int) (w : World)
    (hat : ∀ w1 : World, Fr none_ w w1 → Calls Tryd.prog 62 #[.pointer o, .int .i64 n] w1 fun e w' => e = .returned (.tuple #[.pointer none, errV k]) ∧ w1 = w') :
    Calls Tryd.prog 34 #[.pointer o, .int .i64 n, .agg #[.int .i64 a, .int .i64 b], .agg #[.int .i64 c, .int .i64 d]] w fun e w' => e = .returned (.tuple #[.bool false, errV k]) ∧ Fr none_ w w' := by
  have H := hid_ hat
  clear hat
  go_enter Tryd.func34, Tryd.ntmps34
  go_wp2_with (go_at_call 62; refine (H.out _ (((Fr.refl _ _).alloc _).alloc _)).mono ?_; rintro e w' ⟨rfl, rfl⟩)
  go_ret2
  exact ⟨rfl, ((Fr.refl _ _).alloc _).alloc _⟩

theorem swap_ok (T G : Nat) (ps : List Pg) (i : Nat) (s g a b c d : Int) (w : World) (h : Tbl w T G ps) (hi : ps[i]? = some (true, s, g)) :
    Calls Tryd.prog 34 #[.pointer (some ⟨T, 0, none⟩), .int .i64 i, .agg #[.int .i64 a, .int .i64 b], .agg #[.int .i64 c, .int .i64 d]] w fun e w' =>
      e = .returned (.tuple #[.bool (s == a && g == b), .nilIface]) ∧ Tbl w' T G (if s = a ∧ g = b then ps.set i (true, c, d) else ps) ∧ Fr (only G) w w' := by
  have h' := h
  obtain ⟨cap, cur, hT, hG, h1, h2, h3, h4, h5⟩ := h
  obtain ⟨d0, d1, d2⟩ := h5 i _ hi
  have c2 := hG.cell' d1
  have c3 := hG.cell' d2
  have f := hG.frozen
  have f1 := f (i * 3 + 1)
  have f2 := f (i * 3 + 1 + 1)
  have hlt := hG.lt
  have H := hid_ h'
  have Hi := hid_ hi
  clear hT hG h5 d0 d1 d2 h' hi f
  by_cases hc : s = a ∧ g = b
  · obtain ⟨rfl, rfl⟩ := hc
    go_enter Tryd.func34, Tryd.ntmps34
    go_wp2_with (go_at_call 62; refine (mapAt_ok T G ps i s g _ (H.out.fr (((Fr.refl none_ _).alloc _).alloc _) id id) Hi.out).mono ?_; rintro e w' ⟨rfl, rfl⟩)
    go_region
    all_goals go_wp2
    go_ret2
    exact ⟨rfl, (H.out.set_head Hi.out c d).fr ((((Fr.refl none_ _).alloc _).alloc _).drew) id id, (((((Fr.refl (only G) w).setCell (p := ⟨G, i * 3 + 1, none⟩) (.inl (Eq.refl G)) _).setCell (p := ⟨G, i * 3 + 1 + 1, none⟩) (.inl (Eq.refl G)) _).alloc _).alloc _).drew⟩
  · have hq : ∀ w, (binOp .neq 25 (.agg #[.int .i64 s, .int .i64 g]) (.agg #[.int .i64 a, .int .i64 b])).run Tryd.prog w = .ok (.bool true) w := fun w => by
      rw [neq_ref]
      have : (s == a && g == b) = false := by simpa using hc
      rw [this]; rfl
    have Hc := hid_ hc
    clear hc
    go_enter Tryd.func34, Tryd.ntmps34
    go_wp2_with (go_at_call 62; refine (mapAt_ok T G ps i s g _ (H.out.fr (((Fr.refl none_ _).alloc _).alloc _) id id) Hi.out).mono ?_; rintro e w' ⟨rfl, rfl⟩)
    go_region
    all_goals go_wp2
    go_ret2
    refine ⟨?_, ?_, ?_⟩
    · have : (s == a && g == b) = false := by simpa using Hc.out
      rw [this]; rfl
    · exact H.out.fr ((((Fr.refl none_ _).alloc _).alloc _).drew) id id
    · exact (((Fr.refl _ _).alloc _).alloc _).drew

end Go.Proofs.YtfihfjbakfadkaaDoor
namespace Go.Proofs.YtfihfjbakfadkaaDoor
open Go.RowKit
set_option maxRecDepth 100000
set_option linter.unusedVariables false

/-- What was put. -/
structure RaP where
  xs : Int
  xg : Int
  R : Rc
  A : Option Addr
  c : Nat
  B : Option Addr
  d : Nat
  live : Bool
abbrev ptLA (p : RaP) : List Value := [.int .i64 p.xs, .int .i64 p.xg, .int .i64 p.R.kind, .string p.R.low, .string p.R.high, .bool p.R.unb, .int .i64 p.R.right, .slice p.A p.R.rows.length p.c, .slice p.B p.R.ents.length p.d, .string p.R.key, .string p.R.val, .int .i64 p.R.page, .int .i64 p.R.hpage, .int .i64 p.R.hleft, .string p.R.hkey, .int .i64 p.R.nslot, .int .i64 p.R.ngen, .bool p.live]
def ptFlat (L : List RaP) : List Value := (L.map ptLA).flatten
theorem ptFlat_snoc (L : List RaP) (p : RaP) : ptFlat (L ++ [p]) = ptFlat L ++ ptLA p := by simp [ptFlat]
theorem ptFlat_one (L : List RaP) : ∀ u ∈ ptFlat L, u.oneCell' = true := by
  intro u hu
  simp only [ptFlat, List.mem_flatten, List.mem_map] at hu
  obtain ⟨l, ⟨p, _, rfl⟩, hu⟩ := hu
  simp only [List.mem_cons, List.not_mem_nil, or_false] at hu
  rcases hu with rfl | rfl | rfl | rfl | rfl | rfl | rfl | rfl | rfl | rfl | rfl | rfl | rfl | rfl | rfl | rfl | rfl | rfl <;> rfl
theorem ptFlat_get : ∀ (L : List RaP) (k : Nat) (p : RaP), L[k]? = some p → ∀ (j : Nat) (v : Value), (ptLA p)[j]? = some v → (ptFlat L)[k * 18 + j]? = some v
  | [], k, p, h, _, _, _ => by simp at h
  | q :: L, 0, p, h, j, v, hv => by
    obtain rfl : q = p := by simpa using h
    have hj : j < (ptLA q).length := (List.getElem?_eq_some_iff.1 hv).1
    rw [Nat.zero_mul, Nat.zero_add]
    show (((q :: L).map ptLA).flatten)[j]? = some v
    rw [List.map_cons, List.flatten_cons, List.getElem?_append_left hj]
    exact hv
  | q :: L, k + 1, p, h, j, v, hv => by
    have := ptFlat_get L k p (by simpa using h) j v hv
    show (((q :: L).map ptLA).flatten)[(k + 1) * 18 + j]? = some v
    rw [List.map_cons, List.flatten_cons, List.getElem?_append_right (by simp; omega), show (k + 1) * 18 + j - (ptLA q).length = k * 18 + j by simp; omega]
    exact this
/-- What was put, where the slice says. -/
structure RaIn (w : World) (L : List RaP) (A : Option Addr) (c : Nat) : Prop where
  rd : Reads w 18 A L.length (ptFlat L)
  cap : L.length ≤ c
  capm : c ≤ maxLen
  len : L.length ≤ 5000
  recs : ∀ p ∈ L, RecReads w p.R p.A p.B
  sz : ∀ p ∈ L, p.R.rows.length ≤ 1000 ∧ p.R.ents.length ≤ 1000
theorem RaIn.keep {w w' : World} {L : List RaP} {A : Option Addr} {c : Nat} (h : RaIn w L A c) (hf : Fr none_ w w') : RaIn w' L A c := ⟨h.rd.none_fr hf, h.cap, h.capm, h.len, fun p hp => (h.recs p hp).keep hf, h.sz⟩
theorem RaIn.nil (w : World) : RaIn w [] none 0 := ⟨Reads.nil_, Nat.le_refl _, Nat.zero_le _, Nat.zero_le _, (fun p hp => by cases hp), (fun p hp => by cases hp)⟩
theorem RaIn.at_ {w : World} {L : List RaP} {A : Option Addr} {c : Nat} (h : RaIn w L A c) {k : Nat} {p : RaP} (hp : L[k]? = some p) : ∃ b off, A = some ⟨b, off, none⟩ ∧ b < w.heap.size ∧ ∀ (j : Nat) (v : Value), (ptLA p)[j]? = some v → w.cell? ⟨b, off + k * 18 + j, none⟩ = some v := by
  obtain ⟨b, off, e, hb, hc⟩ := reads_lit h.rd (by omega) (by have := (List.getElem?_eq_some_iff.1 hp).1; omega)
  refine ⟨b, off, e, hb, fun j v hv => ?_⟩
  have := hc _ _ (ptFlat_get L k p hp j v hv)
  rwa [← Nat.add_assoc] at this
abbrev raA (slots last : Int) (L : List RaP) (A : Option Addr) (c : Nat) : Array Value := #[.int .i64 slots, .int .i64 last, .slice A L.length c]
abbrev raV (slots last : Int) (L : List RaP) (A : Option Addr) (c : Nat) : Value := .agg (raA slots last L A c)
/-- A slot's generation, and is it used? -/
def slotTo (L : List RaP) (n : Int) : Nat → Int × Bool
  | 0 => (0, false)
  | k + 1 => match L[k]? with
    | some p => if p.xs = n then (p.xg, p.live) else slotTo L n k
    | none => slotTo L n k
abbrev slotP (L : List RaP) (n : Int) : Int × Bool := slotTo L n L.length
theorem slot_hit {L : List RaP} {n : Int} {k : Nat} {p : RaP} (hp : L[k]? = some p) (h : p.xs = n) : slotTo L n (k + 1) = (p.xg, p.live) := by simp [slotTo, hp, h]
theorem slot_miss {L : List RaP} {n : Int} {k : Nat} {p : RaP} (hp : L[k]? = some p) (h : ¬ p.xs = n) : slotTo L n (k + 1) = slotTo L n k := by simp [slotTo, hp, h]
set_option maxHeartbeats 4000000 in
theorem rslot_ok (slots last : Int) (L : List RaP) (A : Option Addr) (c : Nat) (n : Int) (w : World) (h : RaIn w L A c) : Calls Tryd.prog 41 #[raV slots last L A c, .int .i64 n] w fun e w' => e = .returned (.tuple #[.int .i64 (slotP L n).1, .bool (slotP L n).2]) ∧ Fr none_ w w' := by
  obtain ⟨w0, hw0⟩ : ∃ z, z = w.alloc (.cells (raA slots last L A c) 46) := ⟨_, rfl⟩
  have f0 : Fr none_ w w0 := by rw [hw0]; exact (Fr.refl none_ w).alloc _
  have BV : Hid (Blk w0 w.heap.size 46 (raA slots last L A c)) := hid_ (by rw [hw0]; exact Blk.new w _ _)
  have F0 := hid_ f0
  have H := hid_ (h.keep f0)
  have hl := h.len
  clear h f0
  go_enter Tryd.func41, Tryd.ntmps41
  go_upto_region 1 with fail
  change Code.wp _ _ _ _ (w.alloc (.cells (raA slots last L A c) 46))
  rw [← hw0]
  clear hw0
  go_wp2_with fail
  go_loopw [6, 7, 8] (fun g u i wr => ∃ k : Nat, k ≤ L.length ∧ i = .int .i64 k ∧ g = .int .i64 (slotTo L n k).1 ∧ u = .bool (slotTo L n k).2 ∧ w0 = wr) (fun _ _ i _ => L.length - (intOf i).toNat)
  case atStart => exact ⟨0, Nat.zero_le _, rfl, rfl, rfl, rfl⟩
  case round =>
    obtain ⟨k, hk, rfl, rfl, rfl, rfl⟩ := hrel
    have hi0 : (0 : Int) ≤ (k : Int) := Int.natCast_nonneg _
    have v2 : w0.cell? ⟨w.heap.size, 2, none⟩ = some (.slice A L.length c) := BV.out.cell' rfl
    by_cases hlt : k < L.length
    · obtain ⟨p, hp⟩ : ∃ p, L[k]? = some p := ⟨_, List.getElem?_eq_getElem hlt⟩
      obtain ⟨b, off, rfl, hb, hc⟩ := H.out.at_ hp
      have d0 : w0.cell? ⟨b, off + k * 18, none⟩ = some (.int .i64 p.xs) := hc 0 _ rfl
      have d1 : w0.cell? ⟨b, off + k * 18 + 1, none⟩ = some (.int .i64 p.xg) := hc 1 _ rfl
      have d17 : w0.cell? ⟨b, off + k * 18 + 17, none⟩ = some (.bool p.live) := hc 17 _ rfl
      have HP := hid_ hp
      have hi1 : (k : Int) < (L.length : Int) := by omega
      clear hp hc
      by_cases hx : p.xs = n
      · have hd : (p.xs == n) = true := by simpa using hx
        have HX := hid_ hx
        clear hx
        go_wp2_with fail
        go_roundw
        case rel => exact ⟨k + 1, by omega, by go_num, by rw [slot_hit HP.out HX.out], by rw [slot_hit HP.out HX.out], by first | rfl | trivial⟩
        case measure => simp [intOf]; omega
      · have hd : (p.xs == n) = false := by simpa using hx
        have HX := hid_ hx
        clear hx
        go_wp2_with fail
        go_roundw
        case rel => exact ⟨k + 1, by omega, by go_num, by rw [slot_miss HP.out HX.out], by rw [slot_miss HP.out HX.out], by first | rfl | trivial⟩
        case measure => simp [intOf]; omega
    · obtain rfl : k = L.length := by omega
      go_wp2_with fail
      go_ret2
      exact ⟨rfl, F0.out⟩
/-- Where a live ref was put. -/
def FindIs (L : List RaP) (s g : Int) (k : Int) : Prop :=
  (∃ (i : Nat) (p : RaP), k = (i : Int) ∧ L[i]? = some p ∧ p.xs = s ∧ p.xg = g ∧ p.live = true ∧ ∀ (j : Nat) (q : RaP), j < i → L[j]? = some q → ¬ (q.xs = s ∧ q.xg = g ∧ q.live = true)) ∨ (k = -1 ∧ ∀ (j : Nat) (q : RaP), L[j]? = some q → ¬ (q.xs = s ∧ q.xg = g ∧ q.live = true))
def FindPost (L : List RaP) (s g : Int) (w : World) (e : Ending) (w' : World) : Prop := ∃ k, FindIs L s g k ∧ e = .returned (.int .i64 k) ∧ Fr none_ w w'
set_option maxHeartbeats 8000000 in
theorem rafind_ok (slots last : Int) (L : List RaP) (A : Option Addr) (c : Nat) (s g : Int) (w : World) (h : RaIn w L A c) : Calls Tryd.prog 64 #[raV slots last L A c, .agg #[.int .i64 s, .int .i64 g]] w (FindPost L s g w) := by
  obtain ⟨w0, hw0⟩ : ∃ z, z = (w.alloc (.cells (raA slots last L A c) 46)).alloc (.cells #[.int .i64 s, .int .i64 g] 25) := ⟨_, rfl⟩
  have f0 : Fr none_ w w0 := by rw [hw0]; exact ((Fr.refl none_ w).alloc _).alloc _
  have BV : Hid (Blk w0 w.heap.size 46 (raA slots last L A c)) := hid_ (by rw [hw0]; exact (Blk.new w _ _).alloc _)
  have BX : Hid (Blk w0 (w.heap.size + 1) 25 #[.int .i64 s, .int .i64 g]) := hid_ (by
    have := Blk.new (w.alloc (.cells (raA slots last L A c) 46)) 25 #[.int .i64 s, .int .i64 g]
    rw [World.size_alloc] at this
    rw [hw0]; exact this)
  have F0 := hid_ f0
  have H := hid_ (h.keep f0)
  have hl := h.len
  clear h f0
  go_enter Tryd.func64, Tryd.ntmps64
  go_upto_region 1 with fail
  change Code.wp _ _ _ _ ((w.alloc (.cells (raA slots last L A c) 46)).alloc (.cells #[.int .i64 s, .int .i64 g] 25))
  rw [← hw0]
  clear hw0
  go_wp2_with fail
  go_loopw [5] (fun i wr => ∃ k : Nat, k ≤ L.length ∧ i = .int .i64 k ∧ (∀ (j : Nat) (q : RaP), j < k → L[j]? = some q → ¬ (q.xs = s ∧ q.xg = g ∧ q.live = true)) ∧ Fr none_ w0 wr) (fun i _ => L.length - (intOf i).toNat)
  case atStart => exact ⟨0, Nat.zero_le _, rfl, fun j q hj => by omega, Fr.refl _ _⟩
  case round =>
    obtain ⟨k, hk, rfl, hall, hfr⟩ := hrel
    have HA := hid_ hall
    have FR := hid_ hfr
    have hi0 : (0 : Int) ≤ (k : Int) := Int.natCast_nonneg _
    have v2 : wr.cell? ⟨w.heap.size, 2, none⟩ = some (.slice A L.length c) := (BV.out.fr hfr id).cell' rfl
    have x0 : wr.cell? ⟨w.heap.size + 1, 0, none⟩ = some (.int .i64 s) := (BX.out.fr hfr id).cell' rfl
    have x1 : wr.cell? ⟨w.heap.size + 1, 1, none⟩ = some (.int .i64 g) := (BX.out.fr hfr id).cell' rfl
    clear hall hfr
    by_cases hlt : k < L.length
    · obtain ⟨p, hp⟩ : ∃ p, L[k]? = some p := ⟨_, List.getElem?_eq_getElem hlt⟩
      obtain ⟨b, off, rfl, hb, hc⟩ := (H.out.keep FR.out).at_ hp
      have d0 : wr.cell? ⟨b, off + k * 18, none⟩ = some (.int .i64 p.xs) := hc 0 _ rfl
      have d1 : wr.cell? ⟨b, off + k * 18 + 1, none⟩ = some (.int .i64 p.xg) := hc 1 _ rfl
      have d17 : wr.cell? ⟨b, off + k * 18 + 17, none⟩ = some (.bool p.live) := hc 17 _ rfl
      have HP := hid_ hp
      have hi1 : (k : Int) < (L.length : Int) := by omega
      clear hp hc
      by_cases hx : p.xs = s ∧ p.xg = g
      · have hq : ∀ w', (binOp .eql 25 (.agg #[.int .i64 p.xs, .int .i64 p.xg]) (.agg #[.int .i64 s, .int .i64 g])).run Tryd.prog w' = .ok (.bool true) w' := fun w' => by rw [eql_ref]; simp [hx.1, hx.2]
        have HX := hid_ hx
        clear hx
        cases hlv : p.live with
        | true =>
          have HV := hid_ hlv
          rw [hlv] at d17
          clear hlv
          go_wp2_with fail
          go_quiet (fail)
          go_wp2_with fail
          go_ret
          exact ⟨(k : Int), .inl ⟨k, p, rfl, HP.out, HX.out.1, HX.out.2, HV.out, HA.out⟩, rfl, F0.out.then_none (by repeat (first | exact FR.out | apply Fr.drewN | apply Fr.drew))⟩
        | false =>
          have HV := hid_ hlv
          rw [hlv] at d17
          clear hlv
          go_wp2_with fail
          go_quiet (fail)
          go_wp2_with fail
          go_roundw
          case rel =>
            refine ⟨k + 1, by omega, by go_num, fun j q hj hq => ?_, by repeat (first | exact FR.out | apply Fr.drewN | apply Fr.drew)⟩
            rcases Nat.lt_succ_iff_lt_or_eq.1 hj with h | rfl
            · exact HA.out j q h hq
            · obtain rfl := Option.some.inj (HP.out.symm.trans hq)
              rintro ⟨_, _, e⟩
              rw [HV.out] at e; cases e
          case measure => simp [intOf]; omega
      · have hq : ∀ w', (binOp .eql 25 (.agg #[.int .i64 p.xs, .int .i64 p.xg]) (.agg #[.int .i64 s, .int .i64 g])).run Tryd.prog w' = .ok (.bool false) w' := fun w' => by
          have hd : (p.xs == s && p.xg == g) = false := by
            cases h1 : (p.xs == s) with
            | false => rfl
            | true =>
              cases h2 : (p.xg == g) with
              | false => rfl
              | true => exact absurd ⟨by simpa using h1, by simpa using h2⟩ hx
          rw [eql_ref, hd]
        have HX := hid_ hx
        clear hx d17
        go_wp2_with fail
        go_quiet (fail)
        go_wp2_with fail
        go_roundw
        case rel =>
          refine ⟨k + 1, by omega, by go_num, fun j q hj hq => ?_, by repeat (first | exact FR.out | apply Fr.drewN | apply Fr.drew)⟩
          rcases Nat.lt_succ_iff_lt_or_eq.1 hj with h | rfl
          · exact HA.out j q h hq
          · obtain rfl := Option.some.inj (HP.out.symm.trans hq)
            rintro ⟨e1, e2, _⟩
            exact HX.out ⟨e1, e2⟩
        case measure => simp [intOf]; omega
    · have hi1 : ¬ (k : Int) < (L.length : Int) := by omega
      go_wp2_with fail
      go_ret
      exact ⟨-1, .inr ⟨rfl, fun j q hq => HA.out j q (by have := (List.getElem?_eq_some_iff.1 hq).1; omega) hq⟩, rfl, F0.out.then_none FR.out⟩
end Go.Proofs.YtfihfjbakfadkaaDoor
namespace Go.Proofs.YtfihfjbakfadkaaDoor
open Go

section
variable {P : Program} {md : Region.Mode} {ops : Array Oper} {Q : Exit → Act → World → Prop} {S : World → Prop}
def wpAnyU (P : Program) (md : Region.Mode) (ops : Array Oper) (Q : Exit → Act → World → Prop) (S : World → Prop) (m : Nat) : Nat → Array Bool → Act → World → Prop
  | 0, listed, a, w => Region.ready md ops listed = [] ∧ Q .normal a w
  | fuel + 1, listed, a, w =>
    (Region.ready md ops listed = [] → Q .normal a w) ∧
    ∀ i ∈ Region.ready md ops listed, wpOp P ops Q i (fun a' w' => (m ≤ i ∨ S w') ∧ wpAnyU P md ops Q S m fuel (listed.setIfInBounds i true) a' w') a w
theorem wpAny_of_U {m : Nat} : ∀ (fuel : Nat) (listed : Array Bool) (a : Act) (w : World), wpAnyU P md ops Q S m fuel listed a w → wpAny P md ops Q fuel listed a w
  | 0, _, _, _, h => h
  | fuel + 1, _, _, _, h => ⟨h.1, fun i hi => wpOp_mono (fun a' w' h' => wpAny_of_U fuel _ a' w' h'.2) (h.2 i hi)⟩
/-- As wpAnyU_first, where m waits for i by whatever way. -/
theorem wpAnyU_first2 {m i f : Nat} {oi : Oper} {v : Value} (hi : ops[i]? = some oi) (hsel : ∀ (j : Nat) (o : Oper) cs b, ops[j]? = some o → o.op ≠ .select cs b)
    (hQ : ∀ c a w, Q (.panic c) (a.put oi.dst v) w → Q (.panic c) a w) (hm : ∀ j, j < ops.size → m ≤ j → j ≠ i → waitsB md ops f j i = true) :
    ∀ (fuel : Nat) (listed : Array Bool) (a : Act) (w : World), Closed md ops listed →
      (∀ j oj, ops[j]? = some oj → j ≠ i → listed.getD j true = false → (∀ e ∈ oj.after, Region.binds md e = true → e.on ≠ i) → oi.apart ops oj = true) →
      i ∈ Region.ready md ops listed → YieldsIf P ops S oi v a → S w →
      wpAnyU P md ops Q S m fuel (listed.setIfInBounds i true) (a.put oi.dst v) w → wpAnyU P md ops Q S m (fuel + 1) listed a w := by
  intro fuel
  induction fuel with
  | zero =>
    intro listed a w hc _ hr hy hS H
    refine ⟨fun h => (by rw [h] at hr; cases hr), fun j hj => ?_⟩
    by_cases hji : j = i
    · subst hji; exact hy.wpOp hi hS ⟨.inr hS, H⟩
    · have := ready_mono hj hji
      rw [H.1] at this
      cases this
  | succ fuel ih =>
    intro listed a w hc hfree hr hy hS H
    refine ⟨fun h => (by rw [h] at hr; cases hr), fun j hj => ?_⟩
    by_cases hji : j = i
    · subst hji; exact hy.wpOp hi hS ⟨.inr hS, H⟩
    · have h1 := H.2 j (ready_mono hj hji)
      obtain ⟨hjun, oj, hoj, hall⟩ := mem_ready.1 hj
      have hnot : ∀ e ∈ oj.after, Region.binds md e = true → e.on ≠ i := fun e he hb heq => by
        have h1 := hall e he hb
        have h0 := (mem_ready.1 hr).1
        rw [heq] at h1
        rcases Nat.lt_or_ge i listed.size with h' | h'
        · simp [h'] at h0 h1; rw [h0] at h1; cases h1
        · simp [Array.getElem?_eq_none h'] at h1
      have hjm : ¬ m ≤ j := fun hmj => ready_waits hc hj (hm j (Array.getElem?_eq_some_iff.1 hoj).1 hmj hji) hr
      have h2 := wpOp_putIf hoj (hfree j oj hoj hji hjun hnot) (fun cs b => hsel i oi cs b hi) (fun cs b => hsel j oj cs b hoj) hQ hy h1
      have hfree' : ∀ k ok, ops[k]? = some ok → k ≠ i → (listed.setIfInBounds j true).getD k true = false →
          (∀ e ∈ ok.after, Region.binds md e = true → e.on ≠ i) → oi.apart ops ok = true := fun k ok hk hki hun hno => by
        refine hfree k ok hk hki ?_ hno
        by_cases hjk : j = k
        · subst hjk; exact hjun
        · rw [getD_set_ne true hjk] at hun; exact hun
      refine wpOp_mono (fun a' w' h3 => ?_) h2
      have hs : S w' := h3.2.1.resolve_left hjm
      refine ⟨.inr hs, ih (listed.setIfInBounds j true) a' w' (hc.set hj) hfree' (ready_mono hr (Ne.symm hji)) h3.1 hs ?_⟩
      rw [Array.setIfInBounds_comm _ _ hji]
      exact h3.2.2
theorem wpAnyU_take2 {m i : Nat} {oi : Oper} {v : Value} {fuel : Nat} {listed : Array Bool} {a : Act} {w : World} (hi : ops[i]? = some oi)
    (hs : Region.noSelect ops = true) (hf : Region.free md ops listed i = true) (hr : (Region.ready md ops listed).contains i = true)
    (hm : ((List.range ops.size).all (fun j => !decide (m ≤ j) || decide (j = i) || waitsB md ops ops.size j i) && closedB md ops listed) = true)
    (hQ : ∀ c a w, Q (.panic c) (a.put oi.dst v) w → Q (.panic c) a w) (hy : YieldsIf P ops S oi v a) (hS : S w)
    (h : wpAnyU P md ops Q S m fuel (listed.setIfInBounds i true) (a.put oi.dst v) w) : wpAnyU P md ops Q S m (fuel + 1) listed a w := by
  rw [Bool.and_eq_true] at hm
  exact wpAnyU_first2 hi (Region.noSelect_spec hs) hQ (fun j hj hmj hji => by have := List.all_eq_true.1 hm.1 j (List.mem_range.2 hj); simpa [hmj, hji] using this) fuel listed a w (closed_of hm.2) (Region.free_spec hi hf) (by simpa using hr) hy hS h
theorem wpAnyU_all {m : Nat} {rs : List Nat} {fuel : Nat} {listed : Array Bool} {a : Act} {w : World} (hr : Region.ready md ops listed = rs) (hne : rs ≠ [])
    (h : ∀ i ∈ rs, wpOp P ops Q i (fun a' w' => (m ≤ i ∨ S w') ∧ wpAnyU P md ops Q S m fuel (listed.setIfInBounds i true) a' w') a w) : wpAnyU P md ops Q S m (fuel + 1) listed a w :=
  ⟨fun h0 => absurd (hr ▸ h0) hne, hr ▸ h⟩
/-- The two operations that are ready (with a tail). -/
theorem wpAnyU_two {m i j : Nat} {oi oj : Oper} {fuel : Nat} {listed : Array Bool} {a : Act} {w : World} (hi : ops[i]? = some oi) (hj : ops[j]? = some oj) (gi : oi.guard = none) (gj : oj.guard = none) (hr : Region.ready md ops listed = [i, j])
    (h1 : Oper.wp P oi a w (fun a' w' => (m ≤ i ∨ S w') ∧ wpAnyU P md ops Q S m fuel (listed.setIfInBounds i true) a' w') Q)
    (h2 : Oper.wp P oj a w (fun a' w' => (m ≤ j ∨ S w') ∧ wpAnyU P md ops Q S m fuel (listed.setIfInBounds j true) a' w') Q) : wpAnyU P md ops Q S m (fuel + 1) listed a w := by
  refine wpAnyU_all hr (by simp) (fun k hk => ?_)
  have hk' : k = i ∨ k = j := by simpa using hk
  rcases hk' with rfl | rfl
  · unfold wpOp
    have hw : Region.wanted oi (yielded ops a.tmps) = true := by simp [Region.wanted, gi]
    simp only [hi, hw, if_true]
    exact .inl h1
  · unfold wpOp
    have hw : Region.wanted oj (yielded ops a.tmps) = true := by simp [Region.wanted, gj]
    simp only [hj, hw, if_true]
    exact .inl h2
theorem wpAnyU_done {m : Nat} {listed : Array Bool} {a : Act} {w : World} (hr : Region.ready md ops listed = []) (h : Q .normal a w) : ∀ fuel, wpAnyU P md ops Q S m fuel listed a w
  | 0 => ⟨hr, h⟩
  | _ + 1 => ⟨fun _ => h, by rw [hr]; simp⟩
theorem wp_region_U {id m : Nat} {a : Act} {w : World} (hm : P.follows .mixedOrders = true)
    (h : wpAnyU P .any ops Q S m ops.size (Array.replicate ops.size false) a w.drew) : (Code.region id ops true).wp P Q a w :=
  wp_region_any hm (wpAny_of_U _ _ _ _ h)
end
end Go.Proofs.YtfihfjbakfadkaaDoor

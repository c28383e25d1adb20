/- An argument taken apart to its cells, whatever flat structs and slices it is made of. -/
import Derived.Test.YthcpccddcgbanaaBase
import Derived.ChangeArms
namespace Go.Proofs.Ythcpccddcgbanaa
open Go.ChangeShapes Go.WideShapes Go.RowKit Go.Deep

inductive Leaf where
  | int (k : IntKind)
  | bool
  | string
  | slice (t : TypeId)

/-- The cells of a value of type t: each one's place and kind. -/
def leaves (P : Program) : Nat → TypeId → List (Nat × Leaf)
  | 0, _ => []
  | n + 1, t =>
    match P.underlying t with
    | some .bool => [(0, .bool)]
    | some (.int k) => [(0, .int k)]
    | some .string => [(0, .string)]
    | some (.slice _) => [(0, .slice t)]
    | some (.struct fs) => fs.toList.flatMap fun f => (leaves P n f.type).map fun x => (f.offset + x.1, x.2)
    | _ => []

section
variable {H : Type} (enc : TypeId × Value → H) (P : Program) (w : World)

/-- A cell is of a kind; a slice's elements read as data, and lie below the heap's end. -/
def Conf : Leaf → Value → Prop
  | .int k, v => ∃ n, v = .int k n ∧ (Lit.int k n).wf = true
  | .bool, v => ∃ b, v = .bool b
  | .string, v => ∃ s : ByteArray, v = .string s ∧ s.size ≤ reachBytes
  | .slice t, v => ∃ fuel d ps, DataW.trod enc P w 0 (fun _ => true) true fuel t [v] = some (d, ps) ∧ (∀ p ∈ ps, p.block < w.heap.size) ∧ (∀ x ∈ d.weights P t, x ≤ reachBytes)
end

section
variable {H : Type} {enc : TypeId × Value → H} {P : Program} {w : World}

theorem leaves_conf : ∀ (n : Nat) (t : TypeId) (fuel : Nat) (cs : List Value) (x : DataW H × List MemPlace), DataW.trod enc P w 0 (fun _ => true) true fuel t cs = some x →
    (∀ p ∈ x.2, p.block < w.heap.size) → (∀ y ∈ x.1.weights P t, y ≤ reachBytes) → ∀ o l, (o, l) ∈ leaves P n t → ∃ v, cs[o]? = some v ∧ Conf enc P w l v := by
  intro n
  induction n with
  | zero => intro t fuel cs x _ _ _ o l h; simp [leaves] at h
  | succ n ih =>
    intro t fuel cs x h hlt hwt o l hl
    simp only [leaves] at hl
    split at hl
    · rename_i hu
      obtain ⟨rfl, rfl⟩ : o = 0 ∧ l = .bool := by simpa using hl
      obtain ⟨b, rfl, _⟩ := DataW.trod_bool hu h
      exact ⟨_, rfl, b, rfl⟩
    · rename_i k hu
      obtain ⟨rfl, rfl⟩ : o = 0 ∧ l = .int k := by simpa using hl
      obtain ⟨b, rfl, _, hwf⟩ := DataW.trod_int hu h
      exact ⟨_, rfl, b, rfl, hwf⟩
    · rename_i hu
      obtain ⟨rfl, rfl⟩ : o = 0 ∧ l = .string := by simpa using hl
      obtain ⟨s, rfl, hx, _⟩ := DataW.trod_string hu h
      refine ⟨_, rfl, s, rfl, ?_⟩
      subst hx
      simpa [DataW.weights] using hwt
    · rename_i e hu
      obtain ⟨rfl, rfl⟩ : o = 0 ∧ l = .slice t := by simpa using hl
      rcases DataW.trod_slice hu h with ⟨rfl, _⟩ | ⟨a, len, cap, elems, rest, m, _, rfl, _⟩
      · exact ⟨_, rfl, fuel, x.1, x.2, h, hlt, hwt⟩
      · exact ⟨_, rfl, fuel, x.1, x.2, h, hlt, hwt⟩
    · rename_i fs hu
      obtain ⟨f, hf, hx⟩ := List.mem_flatMap.1 hl
      obtain ⟨⟨o', l'⟩, hm, he⟩ := List.mem_map.1 hx
      obtain ⟨rfl, rfl⟩ : f.offset + o' = o ∧ l' = l := by simpa using he
      obtain ⟨xs, m, _, rfl, _, hlen, hg⟩ := DataW.trod_struct hu h
      obtain ⟨i, hi, hfi⟩ := List.mem_iff_getElem.1 hf
      have hfi' : fs[i]? = some f := by
        rw [← Array.getElem?_toList, List.getElem?_eq_getElem hi, hfi]
      have hil : i < xs.length := by rw [hlen]; simpa using hi
      have hgi := hg i f hfi'
      rw [List.getElem?_eq_getElem hil] at hgi
      obtain ⟨v, hv, hc⟩ := ih f.type m _ xs[i] hgi (fun p hp => hlt p (List.mem_flatMap.2 ⟨xs[i], List.getElem_mem hil, hp⟩)) (fun y hy => hwt y (by
        simp only [DataW.weights, hu]
        refine DataW.weights_mem_each (j := i) (t := f.type) (d := xs[i].1) ?_ ?_ y hy
        · rw [List.getElem?_map, List.getElem?_eq_getElem hi, hfi]; rfl
        · rw [List.getElem?_map, List.getElem?_eq_getElem hil]; rfl)) o' l' hm
      refine ⟨v, ?_, hc⟩
      rw [List.getElem?_take] at hv
      split at hv
      · rw [List.getElem?_drop] at hv; exact hv
      · cases hv
    · simp at hl

theorem weightsAll_mem {e : TypeId} : ∀ {l : List (DataW H)} {d : DataW H}, d ∈ l → ∀ y ∈ d.weights P e, y ∈ DataW.weightsAll P e l
  | x :: r, d, h, y, hy => by
    simp only [DataW.weightsAll, List.mem_append]
    rcases List.mem_cons.1 h with rfl | h
    · exact .inl hy
    · exact .inr (weightsAll_mem h y hy)

/-- A slice of flat things, opened: its address is asked for only where it has elements. -/
def Rd (enc : TypeId × Value → H) (P : Program) (w : World) (m e : Nat) (A : Option Addr) (n : Nat) : Prop :=
  0 < n → ∃ b off, A = some ⟨b, off, none⟩ ∧ b < w.heap.size ∧ ∀ k, k < n → ∀ o l, (o, l) ∈ leaves P m e → ∃ u, w.cell? ⟨b, off + k * P.cellsOf e + o, none⟩ = some u ∧ Conf enc P w l u

theorem open_list (m : Nat) {t e : TypeId} {fuel : Nat} {v : Value} {d : DataW H} {ps : List MemPlace} (ht : P.underlying t = some (.slice e)) (h : DataW.trod enc P w 0 (fun _ => true) true fuel t [v] = some (d, ps))
    (hlt : ∀ p ∈ ps, p.block < w.heap.size) (hwt : ∀ y ∈ d.weights P t, y ≤ reachBytes) (hne : (leaves P m e).isEmpty = false) (hin : (leaves P m e).all (fun x => decide (x.1 < P.cellsOf e)) = true) :
    ∃ A n c, v = .slice A n c ∧ n ≤ c ∧ c ≤ maxLen ∧ c * P.bytesOf e ≤ reachBytes ∧ (A = none → n = 0 ∧ c = 0) ∧ Rd enc P w m e A n := by
  rcases open_slice ht h with ⟨hv, hx⟩ | ⟨a, len, cap, m', fu, D, Pl, hv, hb, hl, hm, hmm, hx, hi⟩
  · obtain rfl : v = .slice none 0 0 := by simpa using hv
    exact ⟨none, 0, 0, rfl, Nat.le_refl _, by simp, by simp, fun _ => ⟨rfl, rfl⟩, fun h => absurd h (by omega)⟩
  · obtain rfl : v = .slice (some a) len cap := by simpa using hv
    simp only [if_true] at hmm
    subst hmm
    obtain ⟨rfl, rfl⟩ : d = _ ∧ ps = _ := by simpa using hx
    have hwd : (((List.range len).map D).length + ((List.range (m' - len)).map fun j => D (len + j)).length) * P.bytesOf e ≤ reachBytes := by
      refine hwt _ ?_
      simp only [DataW.weights, ht]
      exact List.mem_cons_self
    have hcap : m' * P.bytesOf e ≤ reachBytes := by
      simp only [List.length_map, List.length_range] at hwd
      rwa [show len + (m' - len) = m' by omega] at hwd
    refine ⟨some a, len, m', rfl, hl, hm, hcap, (fun h => by cases h), fun hn => ?_⟩
    have hsz : 0 < P.cellsOf e := by
      cases hlv : leaves P m e with
      | nil => rw [hlv] at hne; cases hne
      | cons y ys => rw [hlv] at hin; simp at hin; omega
    have hcell : ∀ k, k < len → ∃ cs : List Value, cs.length = P.cellsOf e ∧ (∀ j, j < P.cellsOf e → w.cell? (a.add (k * P.cellsOf e + j)) = cs[j]?) ∧ ∀ o l, (o, l) ∈ leaves P m e → ∃ v, cs[o]? = some v ∧ Conf enc P w l v := by
      intro k hk
      obtain ⟨cs, hc, htr⟩ := hi k (by omega)
      obtain ⟨_, hcl, hat⟩ := World.cells?_some hc
      refine ⟨cs, hcl, fun j hj => by rw [← hat j hj, add_add], leaves_conf m e fu cs _ htr ?_ ?_⟩
      · intro p hp
        refine hlt p ?_
        rw [List.mem_append]
        exact .inr (List.mem_flatMap.2 ⟨k, List.mem_range.2 (by omega), hp⟩)
      · intro y hy
        refine hwt y ?_
        simp only [DataW.weights, ht, List.mem_cons, List.mem_append]
        exact .inr (.inl (weightsAll_mem (List.mem_map.2 ⟨k, List.mem_range.2 hk, rfl⟩) y hy))
    obtain ⟨cs0, hcl0, hat0, _⟩ := hcell 0 hn
    have h00 := hat0 0 hsz
    have hsome : ∃ u, w.cell? a = some u := by
      have : a.add (0 * P.cellsOf e + 0) = a := by simp [Addr.add]
      rw [this, List.getElem?_eq_getElem (by omega)] at h00
      exact ⟨_, h00⟩
    obtain ⟨u0, hu0⟩ := hsome
    have hspot : a.spot = none := by
      unfold World.cell? at hu0
      split at hu0
      · split at hu0
        · cases hu0
        · rename_i hs; simpa using hs
      · cases hu0
    obtain ⟨b, off, sp⟩ := a
    simp only at hspot
    subst hspot
    have hadd : ∀ j, (⟨b, off, none⟩ : Addr).add j = ⟨b, off + j, none⟩ := by
      intro j
      unfold Addr.add
      split <;> simp_all
    refine ⟨b, off, rfl, World.block_lt_of_cell? w _ hu0, fun k hk o l hol => ?_⟩
    obtain ⟨cs, hcl, hat, hcf⟩ := hcell k hk
    obtain ⟨v, hv, hc⟩ := hcf o l hol
    refine ⟨v, ?_, hc⟩
    have hoe : o < P.cellsOf e := by
      have := List.all_eq_true.1 hin _ hol
      simpa using this
    have := hat o hoe
    rw [hadd, hv] at this
    rw [Nat.add_assoc]
    exact this

/-- A flat argument by value. -/
theorem open_flat (m : Nat) {t : TypeId} {v : Value} {d : DataW H} {ps : List MemPlace} (h : DataW.Trod enc P w 0 (fun _ => true) true t v d ps)
    (hlt : ∀ p ∈ ps, p.block < w.heap.size) (hwt : ∀ y ∈ d.weights P t, y ≤ reachBytes) : ∀ o l, (o, l) ∈ leaves P m t → ∃ u, v.cells.toList[o]? = some u ∧ Conf enc P w l u := by
  obtain ⟨fuel, hf⟩ := h
  exact leaves_conf m t fuel _ _ hf hlt hwt

theorem open_agg (m : Nat) {t : TypeId} {fs : Array Field} {r : Reach} {b0 : Nat} {v : Value} {d : DataW H} {ps : List MemPlace} (hs : P.underlying t = some (.struct fs)) (hv : Value.okWide P w r b0 t v) (h : DataW.Trod enc P w 0 (fun _ => true) true t v d ps)
    (hlt : ∀ p ∈ ps, p.block < w.heap.size) (hwt : ∀ y ∈ d.weights P t, y ≤ reachBytes) : ∃ cs : List Value, v = .agg cs.toArray ∧ cs.length = P.cellsOf t ∧ ∀ o l, (o, l) ∈ leaves P m t → ∃ u, cs[o]? = some u ∧ Conf enc P w l u := by
  obtain ⟨cs, rfl, hsz⟩ := okWide_struct hs hv
  refine ⟨cs.toList, by simp, by simpa using hsz, ?_⟩
  have := open_flat (P := P) (w := w) m h hlt hwt
  simpa [Value.cells] using this

theorem open_slice_arg (m : Nat) {t e : TypeId} {r : Reach} {b0 : Nat} {v : Value} {d : DataW H} {ps : List MemPlace} (ht : P.underlying t = some (.slice e)) (hv : Value.okWide P w r b0 t v) (h : DataW.Trod enc P w 0 (fun _ => true) true t v d ps)
    (hlt : ∀ p ∈ ps, p.block < w.heap.size) (hwt : ∀ y ∈ d.weights P t, y ≤ reachBytes) (hne : (leaves P m e).isEmpty = false) (hin : (leaves P m e).all (fun x => decide (x.1 < P.cellsOf e)) = true) :
    ∃ A n c, v = .slice A n c ∧ n ≤ c ∧ c ≤ maxLen ∧ c * P.bytesOf e ≤ reachBytes ∧ (A = none → n = 0 ∧ c = 0) ∧ Rd enc P w m e A n := by
  obtain ⟨a0, len, cap, rfl⟩ := okWide_slice ht hv
  obtain ⟨fuel, hf⟩ := h
  exact open_list m ht (by simpa [Value.cells] using hf) hlt hwt hne hin
end
end Go.Proofs.Ythcpccddcgbanaa

/- Small words for layer 8's law walks. -/
import Derived.Test.YtfoljojacakkeaaDoorBack8
import Derived.Test.YtfoljojacakkeaaDoorIs
namespace Go.Proofs.YtfoljojacakkeaaDoor
open Go.RowKit Go.BigFrame Go.ChangeShapes Go.WideShapes
set_option maxRecDepth 100000
set_option linter.unusedVariables false

theorem Blk.new_at {w : World} {b : Nat} (t : TypeId) (cs : Array Value) (h : b = w.heap.size) : Blk (w.alloc (.cells cs t)) b t cs := by
  subst h
  exact Blk.new w t cs
theorem own_ch {w : World} {L Cs : List Ch} {base c : Nat} {A : Option Addr} (hm : Cs.map (·.R) = L.map (·.R)) (h : w.ownsRow base 40 15 (.slice A L.length c) L.length (recFlat Cs) ∧ ∀ C ∈ Cs, ChOwn w C) : ChReads w A L.length Cs := own_chreads rfl hm h.1 h.2
theorem own_rec {w : World} {g : Nat} {C : Ch} (h : Blk w g 40 (recL C).toArray) : w.ownsRow 0 40 15 (.slice (some ⟨g, 0, none⟩) 1 1) 1 (recL C) :=
  ⟨rfl, .inr ⟨g, 1, _, rfl, Nat.zero_le _, h, Nat.le_refl _, by decide, rfl, rfl⟩⟩
theorem recFlat_one (L : List Ch) : ∀ u ∈ recFlat L, u.oneCell' = true := fun u hu => by
  simp only [recFlat, List.mem_flatten, List.mem_map] at hu
  obtain ⟨_, ⟨C, _, rfl⟩, hu⟩ := hu
  simp only [List.mem_cons, List.not_mem_nil, or_false] at hu
  rcases hu with rfl | rfl | rfl | rfl | rfl | rfl | rfl | rfl | rfl | rfl | rfl | rfl | rfl | rfl | rfl <;> rfl
theorem fold_push {l : List Rc} {V : Vw} {R : Rc} (h : foldU l = some V) : foldU (R :: l) = upM V R := by
  rw [foldU_cons R (by rintro rfl; cases h), h]
  rfl
/-- One record ahead of a chain of the call's own. -/
theorem push_chain {w9 w10 : World} {g n c4 c10 base : Nat} {P : Ch} {Ds L : List Ch} {A4 A10 : Option Addr} (hm : Ds.map (·.R) = L.map (·.R)) (hn : L.length = n) (hP : Blk w9 g 40 (recL P).toArray)
    (hd : w9.ownsRow base 40 15 (.slice A4 n c4) n (recFlat Ds) ∧ ∀ C ∈ Ds, ChOwn w9 C) (hown : w10.ownsRow 0 40 15 (.slice A10 (1 + n) c10) (1 + n) (recL P ++ recFlat Ds))
    (hgr : w9.grownBy w10 (Value.slice (some ⟨g, 0, none⟩) 1 1).ownBlock) (hpok : ∀ w, ChOk w P) : ChReads w10 A10 (1 + n) (P :: Ds) ∧ Fr (only g) w9 w10 := by
  refine ⟨chReads_own (Cs := P :: Ds) (by have : recFlat (P :: Ds) = recL P ++ recFlat Ds := rfl; rw [this]; exact hown) (by have := congrArg List.length hm; simp at this ⊢; omega) (fun C hC => ?_), (Fr.refl _ w9).grown hgr (fun k hk => .inl (Option.some.inj hk).symm)⟩
  rcases List.mem_cons.1 hC with rfl | hC
  · exact hpok _
  · exact ((hd.2 C hC).beside (own_rec hP) hgr).ok
theorem kind_push {Ds Cs L : List Ch} {R : Rc} (h1 : Cs.map (·.R) = L.map (·.R)) (h2 : Ds.map (·.R) = L.map (·.R)) (hk : ∀ R ∈ Cs.map (·.R), KindOk R) (hR : KindOk R) {P : Ch} (hP : P.R = R) : ∀ S ∈ (P :: Ds).map (·.R), KindOk S := fun S hS => by
  simp only [List.map_cons, List.mem_cons] at hS
  rcases hS with rfl | hS
  · rw [hP]; exact hR
  · rw [h2, ← h1] at hS; exact hk S hS
theorem fold_push_of {Ds Cs L : List Ch} {V : Vw} (h1 : Cs.map (·.R) = L.map (·.R)) (h2 : Ds.map (·.R) = L.map (·.R)) (hf : foldU (Cs.map (·.R)) = some V) (P : Ch) : foldU ((P :: Ds).map (·.R)) = upM V P.R := by
  have : foldU (Ds.map (·.R)) = some V := by rw [h2, ← h1]; exact hf
  exact fold_push this
theorem ents_push {Ds L : List Ch} {P : Ch} (h2 : Ds.map (·.R) = L.map (·.R)) (h : ∀ C ∈ L, C.R.ents.length ≤ 100) (hP : P.R.ents.length ≤ 500) : ∀ C ∈ P :: Ds, C.R.ents.length ≤ 500 := fun C hC => by
  rcases List.mem_cons.1 hC with rfl | hC
  · exact hP
  · have := map_ents h2 h C hC; omega
theorem bare_ok {R : Rc} (h1 : R.rows = []) (h2 : R.ents = []) (h3 : SzOk R.low) (h4 : SzOk R.high) (h5 : SzOk R.key) (h6 : SzOk R.hkey) : ∀ w, ChOk w ⟨R, none, 0, none, 0⟩ := fun w =>
  ⟨rec_nil w R h1 h2, h3, h4, h5, h6, ⟨by rw [h2]; exact Nat.zero_le _, fun p hp => by rw [h2] at hp; simp at hp⟩, by rw [h2]; exact Nat.le_refl _, Nat.zero_le _⟩
end Go.Proofs.YtfoljojacakkeaaDoor

/- own: a chain in memory of its own, by contract. Written by gen_own8.py. -/
import Derived.Test.YtpjbncbmdfmlpaaFold
import Derived.Test.YtpjbncbmdfmlpaaCloneB
namespace Go.Proofs.Ytpjbncbmdfmlpaa
open Go.RowKit Go.BigFrame
set_option maxRecDepth 100000
set_option linter.unusedVariables false

def recFlat (L : List Ch) : List Value := (L.map recL).flatten
theorem recFlat_len (L : List Ch) : (recFlat L).length = L.length * 15 := by
  unfold recFlat
  induction L with
  | nil => rfl
  | cons p t ih => simp at ih ⊢; omega
theorem recFlat_app (L M : List Ch) : recFlat (L ++ M) = recFlat L ++ recFlat M := by simp [recFlat]
theorem recFlat_get : ∀ (L : List Ch) (i : Nat) (C : Ch), L[i]? = some C → ∀ (j : Nat) (v : Value), (recL C)[j]? = some v → (recFlat L)[i * 15 + j]? = some v
  | [], i, C, h, _, _, _ => by simp at h
  | q :: L, 0, C, h, j, v, hv => by
    obtain rfl : q = C := by simpa using h
    have hj : j < (recL q).length := (List.getElem?_eq_some_iff.1 hv).1
    show (recL q ++ recFlat L)[0 * 15 + j]? = some v
    rw [show 0 * 15 + j = j by omega, List.getElem?_append_left hj]
    exact hv
  | q :: L, i + 1, C, h, j, v, hv => by
    have := recFlat_get L i C (by simpa using h) j v hv
    show (recL q ++ recFlat L)[(i + 1) * 15 + j]? = some v
    rw [List.getElem?_append_right (by simp; omega)]
    simp only [List.length_cons, List.length_nil]
    rw [show (i + 1) * 15 + j - (0 + 1 + 1 + 1 + 1 + 1 + 1 + 1 + 1 + 1 + 1 + 1 + 1 + 1 + 1 + 1) = i * 15 + j by omega]
    exact this
theorem record_info : (Try.prog.info? 58).map (fun i => (i.zero, i.size, i.bytes)) = some (some (.agg recZ8), 15, 192) := by kernel_rfl
/-- A record of the call's own. -/
structure ChOwn (w : World) (C : Ch) : Prop where
  own : RecOwn w 0 C.R (.slice C.A C.R.rows.length C.c) (.slice C.B C.R.ents.length C.d)
  low : SzOk C.R.low
  high : SzOk C.R.high
  key : SzOk C.R.key
  hkey : SzOk C.R.hkey
  ents : EtsOk C.R.ents
theorem ChOwn.ok {w : World} {C : Ch} (h : ChOwn w C) : ChOk w C := by
  obtain ⟨A', c', e, h1, h2, _⟩ := own_parts h.own.e
  have e1 : C.B = A' ∧ C.d = c' := by injection e with e1 e2 e3; exact ⟨e1, e3⟩
  exact ⟨h.own.reads, h.low, h.high, h.key, h.hkey, h.ents, by rw [e1.2]; exact h1, by rw [e1.2]; exact h2⟩
theorem ChOwn.keep {w w' : World} {C : Ch} (h : ChOwn w C) (hf : Fr none_ w w') : ChOwn w' C := ⟨h.own.keep hf, h.low, h.high, h.key, h.hkey, h.ents⟩
theorem ChOwn.beside {w w' : World} {C : Ch} (h : ChOwn w C) {base n : Nat} {v : Value} {xs : List Value} (ho : w.ownsRow base 58 15 v n xs) (hg : w.grownBy w' v.ownBlock) : ChOwn w' C := by
  refine ⟨?_, h.low, h.high, h.key, h.hkey, h.ents⟩
  have hf : Fr (fun k => v.ownBlock = some k) w w' := (Fr.refl _ w).grown hg (fun k hk => .inl hk)
  exact h.own.fr hf (fun k hk e => own_own_ne h.own.r ho (by decide) k hk e) (fun k hk e => own_own_ne h.own.e ho (by decide) k hk e)
/-- A row of records of the call's own, read as a chain. -/
theorem chReads_own {w : World} {base n c : Nat} {A : Option Addr} {Cs : List Ch} (ho : w.ownsRow base 58 15 (.slice A n c) n (recFlat Cs)) (hn : Cs.length = n) (hc : ∀ C ∈ Cs, ChOk w C) : ChReads w A n Cs := by
  refine ⟨hn, fun h0 => ?_⟩
  obtain ⟨A', c', e, _, _, hp⟩ := own_parts ho
  have e1 : A = A' := by injection e
  obtain ⟨g, hg, hl, hcell⟩ := hp h0
  refine ⟨g, 0, by rw [e1, hg], hl, fun k C hC => ⟨fun j v hv => ?_, hc C (List.mem_of_getElem? hC)⟩⟩
  have := hcell (k * 15 + j) v (recFlat_get Cs k C hC j v hv)
  rw [Nat.zero_add]
  exact this
def OwnPost (L : List Ch) (w : World) (e : Ending) (w' : World) : Prop :=
  ∃ A c Cs, e = .returned (.slice A L.length c) ∧ Cs.map (·.R) = L.map (·.R) ∧ w'.ownsRow w.heap.size 58 15 (.slice A L.length c) L.length (recFlat Cs) ∧ (∀ C ∈ Cs, ChOwn w' C) ∧ Fr none_ w w'
end Go.Proofs.Ytpjbncbmdfmlpaa

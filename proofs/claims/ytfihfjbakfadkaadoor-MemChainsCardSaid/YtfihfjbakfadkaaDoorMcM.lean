/- Texts of one proof, merged: Own8, Res7. -/
import Derived.Deep.MidRow
import Derived.Test.YtfihfjbakfadkaaDoorMcA
import Derived.Test.YtfihfjbakfadkaaDoorMcG
import Derived.Test.YtfihfjbakfadkaaDoorMcL
namespace Go.Proofs.YtfihfjbakfadkaaDoor
open Go.RowKit Go.BigFrame
set_option maxRecDepth 100000
set_option linter.unusedVariables false

def recFlat (L : List Ch) : List Value := (L.map recL).flatten
theorem recFlat_app (L M : List Ch) : recFlat (L ++ M) = recFlat L ++ recFlat M := by simp [recFlat]
/-- A record of the call's own. -/
structure ChOwn (w : World) (C : Ch) : Prop where
  own : RecOwn w 0 C.R (.slice C.A C.R.rows.length C.c) (.slice C.B C.R.ents.length C.d)
  low : SzOk C.R.low
  high : SzOk C.R.high
  key : SzOk C.R.key
  hkey : SzOk C.R.hkey
  ents : EtsOk C.R.ents
theorem ChOwn.ok {w : World} {C : Ch} (h : ChOwn w C) : ChOk w C := by
  obtain ⟨A', c', e, h1, h2, _⟩ := own_parts h.own.e
  have e1 : C.B = A' ∧ C.d = c' := by injection e with e1 e2 e3; exact ⟨e1, e3⟩
  exact ⟨h.own.reads, h.low, h.high, h.key, h.hkey, h.ents, by rw [e1.2]; exact h1, by rw [e1.2]; exact h2⟩
theorem ChOwn.keep {w w' : World} {C : Ch} (h : ChOwn w C) (hf : Fr none_ w w') : ChOwn w' C := ⟨h.own.keep hf, h.low, h.high, h.key, h.hkey, h.ents⟩
theorem ChOwn.beside {w w' : World} {C : Ch} (h : ChOwn w C) {base n : Nat} {v : Value} {xs : List Value} (ho : w.ownsRow base 41 15 v n xs) (hg : w.grownBy w' v.ownBlock) : ChOwn w' C := by
  refine ⟨?_, h.low, h.high, h.key, h.hkey, h.ents⟩
  have hf : Fr (fun k => v.ownBlock = some k) w w' := (Fr.refl _ w).grown hg (fun k hk => .inl hk)
  exact h.own.fr hf (fun k hk e => own_own_ne h.own.r ho (by decide) k hk e) (fun k hk e => own_own_ne h.own.e ho (by decide) k hk e)
end Go.Proofs.YtfihfjbakfadkaaDoor
namespace Go.Proofs.YtfihfjbakfadkaaDoor
open Go.RowKit
set_option linter.unusedVariables false
section
variable {P : Program} {fn : Func} (tmps : Array Value) (w : World)
/-- A function's results that lie in boxes, read whole. -/
theorem results_cell7 {t : Tmp} {ty : TypeId} (h : fn.results = #[.cell t ty]) (b o : Nat) (cs : List Value) (d : TypeDesc) (ha : tmps.getD t undef = .pointer (some ⟨b, o, none⟩)) (hc : w.rangeAt b o cs)
    (hu : P.underlying ty = some d) (hd : d.isRow = true) (hi : (P.info? ty).map (·.size) = some cs.length) : (results fn tmps).run P w = .ok (.agg cs.toArray) w := by
  have hl := run_loadVar_mid (P := P) w b o ty cs d hc hu hd hi
  have ha' : tmps[t]?.getD undef = .pointer (some ⟨b, o, none⟩) := by simpa using ha
  simp [results, h, ha', asAddr, hl]
end
end Go.Proofs.YtfihfjbakfadkaaDoor

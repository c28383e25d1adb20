/- A function's results that lie in boxes, read whole. -/
import Derived.Test.YtpjbncbmdfmlpaaU7
import Derived.Deep.MidRow
namespace Go.Proofs.Ytpjbncbmdfmlpaa
open Go.RowKit
set_option linter.unusedVariables false
section
variable {P : Program} {fn : Func} (tmps : Array Value) (w : World)
/-- A function's results that lie in boxes, read whole. -/
theorem results_cell7 {t : Tmp} {ty : TypeId} (h : fn.results = #[.cell t ty]) (b o : Nat) (cs : List Value) (d : TypeDesc) (ha : tmps.getD t undef = .pointer (some ⟨b, o, none⟩)) (hc : w.rangeAt b o cs)
    (hu : P.underlying ty = some d) (hd : d.isRow = true) (hi : (P.info? ty).map (·.size) = some cs.length) : (results fn tmps).run P w = .ok (.agg cs.toArray) w := by
  have hl := run_loadVar_mid (P := P) w b o ty cs d hc hu hd hi
  have ha' : tmps[t]?.getD undef = .pointer (some ⟨b, o, none⟩) := by simpa using ha
  simp [results, h, ha', asAddr, hl]
theorem results_cell_tmp7 {t s : Tmp} {ty : TypeId} (h : fn.results = #[.cell t ty, .tmp s]) (b o : Nat) (cs : List Value) (d : TypeDesc) (ha : tmps.getD t undef = .pointer (some ⟨b, o, none⟩)) (hc : w.rangeAt b o cs)
    (hu : P.underlying ty = some d) (hd : d.isRow = true) (hi : (P.info? ty).map (·.size) = some cs.length) : (results fn tmps).run P w = .ok (.tuple #[.agg cs.toArray, tmps.getD s undef]) w := by
  have hl := run_loadVar_mid (P := P) w b o ty cs d hc hu hd hi
  have ha' : tmps[t]?.getD undef = .pointer (some ⟨b, o, none⟩) := by simpa using ha
  simp [results, h, ha', asAddr, hl]
theorem results_cell_cell7 {t s : Tmp} {ty ty2 : TypeId} (h : fn.results = #[.cell t ty, .cell s ty2]) (b o : Nat) (cs : List Value) (d : TypeDesc) (ha : tmps.getD t undef = .pointer (some ⟨b, o, none⟩)) (hc : w.rangeAt b o cs)
    (hu : P.underlying ty = some d) (hd : d.isRow = true) (hi : (P.info? ty).map (·.size) = some cs.length)
    (b2 o2 : Nat) (cs2 : List Value) (d2 : TypeDesc) (ha2 : tmps.getD s undef = .pointer (some ⟨b2, o2, none⟩)) (hc2 : w.rangeAt b2 o2 cs2)
    (hu2 : P.underlying ty2 = some d2) (hd2 : d2.isRow = true) (hi2 : (P.info? ty2).map (·.size) = some cs2.length) : (results fn tmps).run P w = .ok (.tuple #[.agg cs.toArray, .agg cs2.toArray]) w := by
  have hl := run_loadVar_mid (P := P) w b o ty cs d hc hu hd hi
  have hl2 := run_loadVar_mid (P := P) w b2 o2 ty2 cs2 d2 hc2 hu2 hd2 hi2
  have ha' : tmps[t]?.getD undef = .pointer (some ⟨b, o, none⟩) := by simpa using ha
  have ha2' : tmps[s]?.getD undef = .pointer (some ⟨b2, o2, none⟩) := by simpa using ha2
  simp [results, h, ha', ha2', asAddr, hl, hl2]
theorem results_cell_cell_tmp7 {t s r : Tmp} {ty ty2 : TypeId} (h : fn.results = #[.cell t ty, .cell s ty2, .tmp r]) (b o : Nat) (cs : List Value) (d : TypeDesc) (ha : tmps.getD t undef = .pointer (some ⟨b, o, none⟩)) (hc : w.rangeAt b o cs)
    (hu : P.underlying ty = some d) (hd : d.isRow = true) (hi : (P.info? ty).map (·.size) = some cs.length)
    (b2 o2 : Nat) (cs2 : List Value) (d2 : TypeDesc) (ha2 : tmps.getD s undef = .pointer (some ⟨b2, o2, none⟩)) (hc2 : w.rangeAt b2 o2 cs2)
    (hu2 : P.underlying ty2 = some d2) (hd2 : d2.isRow = true) (hi2 : (P.info? ty2).map (·.size) = some cs2.length) : (results fn tmps).run P w = .ok (.tuple #[.agg cs.toArray, .agg cs2.toArray, tmps.getD r undef]) w := by
  have hl := run_loadVar_mid (P := P) w b o ty cs d hc hu hd hi
  have hl2 := run_loadVar_mid (P := P) w b2 o2 ty2 cs2 d2 hc2 hu2 hd2 hi2
  have ha' : tmps[t]?.getD undef = .pointer (some ⟨b, o, none⟩) := by simpa using ha
  have ha2' : tmps[s]?.getD undef = .pointer (some ⟨b2, o2, none⟩) := by simpa using ha2
  simp [results, h, ha', ha2', asAddr, hl, hl2]
end
end Go.Proofs.Ytpjbncbmdfmlpaa

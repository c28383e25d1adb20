/- From a row's hypothesis on errors.errorType to its cell; a world that meets it. (After the worked example of an errors.As.) -/
import Derived.Test.YtfoljojacakkeaaDoorCode
import Derived.ChangeSame
import Derived.ChangeVars
import Derived.JoinedOf
import Derived.LaidLaws
import Derived.LaidHandle
namespace Go.Proofs.YtfoljojacakkeaaDoor
open Go.ChangeShapes Go.WideShapes Go.RowKit

theorem laid_et : Tryd.prog.globalNamed "errors.errorType" = some 0 := by kernel_rfl
theorem laid_rt : (Tryd.prog.cutTypes.find? (·.1 == "internal/reflectlite.rtype")).map (·.2) = some 239 := by kernel_rfl
theorem laid_oneRow : ((List.range Tryd.prog.types.size).filter fun t => Tryd.prog.rowNamed t [101, 114, 114, 111, 114]) = [62] := by kernel_rfl
abbrev laidList : List (String × DataW Unit) := [("errors.errorType", .iface "internal/reflectlite.rtype" (.agg [.ptr (.lit (.string [101, 114, 114, 111, 114]))]))]

theorem handle_of_laid {W : World} (h : laidMetH Tryd.prog laidList W) : Laid W := by
  have h' : laidMet Tryd.prog [] W ∧ handlesMet Tryd.prog laidList W := h
  obtain ⟨name, u, ty, e1, e2, e3, e4, e5⟩ := h'.2 _ (List.mem_singleton.2 rfl)
  have en : name = [101, 114, 114, 111, 114] := (Option.some.inj e1).symm
  subst en
  obtain rfl := Option.some.inj (laid_rt.symm.trans e2)
  have hm : ty ∈ (List.range Tryd.prog.types.size).filter fun t => Tryd.prog.rowNamed t [101, 114, 114, 111, 114] := List.mem_filter.2 ⟨List.mem_range.2 e3, e4⟩
  rw [laid_oneRow] at hm
  obtain rfl := List.mem_singleton.1 hm
  have hh : typeHandle Tryd.prog 62 = .pointer (some ⟨1, 62, none⟩) := by kernel_rfl
  rw [hh] at e5
  have h0 := World.var?_cell laid_et e5 0
  unfold Laid
  simpa using h0

noncomputable def laidWorld (os : Os) : World :=
  let w0 := World.holding Tryd.prog os ⟨#[], #[], []⟩
  { w0 with heap := w0.heap.modify 0 fun
      | .cells _ t frozen => .cells #[.iface 239 (.agg #[.pointer (some ⟨1, 62, none⟩)])] t frozen
      | o => o }
theorem laidWorld_met (os : Os) (args : Array Value) : laidMetH Tryd.prog laidList ((laidWorld os).forCall (fun _ _ => 0) ⟨#[], args, []⟩).memory :=
  laidMetH_of_parts (laidMet_nil _ _) (by kernel_rfl)
end Go.Proofs.YtfoljojacakkeaaDoor

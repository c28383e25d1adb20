/- Texts of one proof, merged: Laid. -/
import Derived.ChangeSame
import Derived.ChangeVars
import Derived.JoinedOf
import Derived.LaidLaws
import Derived.LaidHandle
import Derived.Test.YthcpccddcgbanaaGreatDoorPiI
namespace Go.Proofs.YthcpccddcgbanaaGreatDoor
open Go.ChangeShapes Go.WideShapes Go.RowKit

theorem laid_et : Tryz.prog.globalNamed "errors.errorType" = some 0 := by kernel_rfl
theorem laid_rt : (Tryz.prog.cutTypes.find? (·.1 == "internal/reflectlite.rtype")).map (·.2) = some 194 := by kernel_rfl
theorem laid_oneRow:((List.range Tryz.prog.types.size).filter fun t=>Tryz.prog.rowNamed t [101,114,114,111,114])=[30]:=by kernel_rfl
abbrev laidList : List (String × DataW Unit) := [("errors.errorType", .iface "internal/reflectlite.rtype" (.agg [.ptr (.lit (.string [101, 114, 114, 111, 114]))]))]

theorem handle_of_laid {W:World} (h:laidMetH Tryz.prog laidList W):Laid W:=by
  have h':laidMet Tryz.prog [] W∧handlesMet Tryz.prog laidList W:=h
  obtain ⟨name,u,ty,e1,e2,e3,e4,e5⟩:=h'.2 _ (List.mem_singleton.2 rfl)
  have en:name=[101,114,114,111,114]:=(Option.some.inj e1).symm
  subst en
  obtain rfl:=Option.some.inj (laid_rt.symm.trans e2)
  have hm:ty ∈ (List.range Tryz.prog.types.size).filter fun t=>Tryz.prog.rowNamed t [101,114,114,111,114]:=List.mem_filter.2 ⟨List.mem_range.2 e3,e4⟩
  rw [laid_oneRow] at hm
  obtain rfl:=List.mem_singleton.1 hm
  have hh:typeHandle Tryz.prog 30=.pointer (some ⟨1,30,none⟩):=by kernel_rfl
  rw [hh] at e5
  have h0:=World.var?_cell laid_et e5 0
  unfold Laid
  simpa using h0

noncomputable def laidWorld (os:Os):World:=
  let w0:=World.holding Tryz.prog os ⟨#[],#[],[]⟩
  { w0 with heap:=w0.heap.modify 0 fun
      | .cells _ t frozen=>.cells #[.iface 194 (.agg #[.pointer (some ⟨1,30,none⟩)])] t frozen
      | o=>o }
theorem laidWorld_met (os:Os) (args:Array Value):laidMetH Tryz.prog laidList ((laidWorld os).forCall (fun _ _=>0) ⟨#[],args,[]⟩).memory:=
  laidMetH_of_parts (laidMet_nil _ _) (by kernel_rfl)
end Go.Proofs.YthcpccddcgbanaaGreatDoor

/- InstallNobody's walk. -/
import Derived.Test.YthcpccddcgbanaaAw12
import Derived.Test.YthcpccddcgbanaaIs
namespace Go.Proofs.Ythcpccddcgbanaa
open Go.RowKit Go.ChangeShapes Go.WideShapes
set_option maxRecDepth 100000
set_option linter.unusedVariables false

theorem memCount_ok {m : Nat} {k : Int} {l : Lm} {x : St} (w : World) (h : Mm w m k l x) : Calls Try.prog 25 #[.pointer (some ⟨m, 0, none⟩)] w fun e w' => e = .returned (.int .i64 k) ∧ w = w' := by
  have c0 : w.cell? ⟨m, 0, none⟩ = some (.int .i64 k) := h.b.cell' rfl
  clear h
  go_enter Try.func25, Try.ntmps25
  go_wp2
  go_ret
  exact ⟨rfl, rfl⟩
set_option maxHeartbeats 8000000 in
theorem nobody12_walk (news : Int) (w : World) : Calls Try.prog 6 #[.int .i64 news] w fun e w' => e = .returned (.bool true) ∧ Fr none_ w w' := by
  have F := hid_ (Fr.refl none_ w)
  go_enter Try.func6, Try.ntmps6
  go_wp2_with fail
  refine (memNew_ok lim12 _ lim12_right).mono ?_
  rintro e w1 ⟨m, a, G, vr, ve, T, H, C, M, rfl, hM, hf1, -⟩
  have M1 := hid_ hM
  replace F := hid_ (F.out.then_none hf1)
  clear hM hf1
  go_wp2_with fail
  refine (done_nil _).mono ?_
  rintro e w2 ⟨rfl, rfl⟩
  go_wp2_with fail
  refine (begin_nil news).mono ?_
  rintro e w3 ⟨i, rfl, hI, hf3⟩
  have I3 := hid_ hI
  replace M1 := hid_ (M1.out.keep hf3)
  replace F := hid_ (F.out.then_none hf3)
  clear hI hf3
  go_wp2_with fail
  refine (done_ok I3.out rfl).mono ?_
  rintro e w4 ⟨rfl, hf4⟩
  replace I3 := hid_ (I3.out.keep hf4)
  replace M1 := hid_ (M1.out.keep hf4)
  replace F := hid_ (F.out.then_none hf4)
  clear hf4
  go_wp2_with fail
  refine (step_nil _ _).mono ?_
  rintro e w5 ⟨rfl, rfl⟩
  go_wp2_with fail
  refine (over_nil _).mono ?_
  rintro e w5 ⟨rfl, rfl⟩
  go_wp2_with fail
  refine (isF 1 1 _).mono ?_
  rintro e w5 ⟨rfl, rfl⟩
  go_wp2_with fail
  refine (step_over _ I3.out rfl).mono ?_
  rintro e w5 ⟨rfl, rfl⟩
  go_wp2_with fail
  refine (over_ok I3.out).mono ?_
  rintro e w5 ⟨rfl, rfl⟩
  go_wp2_with fail
  refine (isF 1 1 _).mono ?_
  rintro e w5 ⟨rfl, rfl⟩
  go_wp2_with fail
  refine (memCount_ok _ M1.out).mono ?_
  rintro e w5 ⟨rfl, rfl⟩
  go_wp2_with fail
  refine (ihead_nil _).mono ?_
  rintro e w6 ⟨rfl, hf6⟩
  replace F := hid_ (F.out.then_none hf6)
  clear hf6
  go_wp2_with fail
  refine (ipages_nil _).mono ?_
  rintro e w7 ⟨rfl, rfl⟩
  go_wp2_with fail
  refine (awake12 _).mono ?_
  rintro e w8 ⟨rfl, hf8⟩
  have F8 := hid_ (F.out.then_none hf8)
  clear hf8
  go_wp2_with fail
  go_ret
  exact ⟨rfl, F8.out⟩
end Go.Proofs.Ythcpccddcgbanaa

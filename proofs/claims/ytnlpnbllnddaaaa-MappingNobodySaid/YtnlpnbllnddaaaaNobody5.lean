/- MappingNobody's walk. -/
import Derived.Test.YtnlpnbllnddaaaaIs
import Derived.Test.YtnlpnbllnddaaaaMapAwake
namespace Go.Proofs.Ytnlpnbllnddaaaa
open Go.RowKit
set_option linter.unusedVariables false

theorem copy_nil (w : World) : Calls Try.prog 14 #[.pointer none] w fun e w' => e = .returned (.pointer none) ∧ w = w' := by
  go_enter Try.func14, Try.ntmps14
  go_wp2
  go_ret
  exact ⟨rfl, rfl⟩

set_option maxHeartbeats 1000000 in
theorem nobody5_walk (verb n a b c d : Int) (r : Bool) (w : World) :
    Calls Try.prog 5 #[.agg #[.int .i64 verb, .int .i64 n, .bool r, .int .i64 a, .int .i64 b, .int .i64 c, .int .i64 d]] w fun e w' => e = .returned (.bool true) ∧ Fr none_ w w' := by
  go_enter Try.func5, Try.ntmps5
  go_wp2_with fail
  refine (take_nil _).mono ?_
  rintro e w1 ⟨rfl, rfl⟩
  go_wp2_with fail
  refine (head_err none n 1 _ (fun _ _ => at_nil _ _)).mono ?_
  rintro e w1 ⟨rfl, hf1⟩
  have F1 := hid_ (((Fr.refl none_ w).alloc (.cells #[.int .i64 verb, .int .i64 n, .bool r, .int .i64 a, .int .i64 b, .int .i64 c, .int .i64 d] 42)).then_none hf1)
  have k1 := (Blk.new w 42 #[.int .i64 verb, .int .i64 n, .bool r, .int .i64 a, .int .i64 b, .int .i64 c, .int .i64 d]).fr hf1 id
  have K1 := hid_ k1
  have c1 : w1.cell? ⟨w.heap.size, 1, none⟩ = some (.int .i64 n) := k1.cell' rfl
  have c3 : w1.cell? ⟨w.heap.size, 3, none⟩ = some (.int .i64 a) := k1.cell' rfl
  have c4 : w1.cell? ⟨w.heap.size, 4, none⟩ = some (.int .i64 b) := k1.cell' rfl
  have c5 : w1.cell? ⟨w.heap.size, 5, none⟩ = some (.int .i64 c) := k1.cell' rfl
  have c6 : w1.cell? ⟨w.heap.size, 6, none⟩ = some (.int .i64 d) := k1.cell' rfl
  have z1 := k1.lt
  clear k1 hf1
  go_wp2_with fail
  refine (swap_err none n 1 a b c d _ (fun _ _ => at_nil _ _)).mono ?_
  rintro e w2 ⟨rfl, hf2⟩
  have F2 := hid_ ((F1.out.alloc (.cells #[.int .i64 0, .int .i64 0] 23)).then_none hf2)
  have k2 := (K1.out.alloc (.cells #[.int .i64 0, .int .i64 0] 23)).fr hf2 id
  have k3 := (Blk.new w1 23 #[.int .i64 0, .int .i64 0]).fr hf2 id
  have d1 : w2.cell? ⟨w.heap.size, 1, none⟩ = some (.int .i64 n) := k2.cell' rfl
  have d2 : w2.cell? ⟨w1.heap.size, 0, none⟩ = some (.int .i64 0) := k3.cell' rfl
  have d3 : w2.cell? ⟨w1.heap.size, 1, none⟩ = some (.int .i64 0) := k3.cell' rfl
  clear k2 k3 hf2 c1 c3 c4 c5 c6 z1
  go_wp2_with fail
  refine (isF 1 1 _).mono ?_
  rintro e w3 ⟨rfl, rfl⟩
  go_wp2_with fail
  refine (isF 1 1 _).mono ?_
  rintro e w3 ⟨rfl, rfl⟩
  go_wp2_with fail
  refine (isF 1 1 _).mono ?_
  rintro e w3 ⟨rfl, rfl⟩
  go_wp2_with fail
  refine (give_err none n 1 _ (fun _ _ => at_nil _ _)).mono ?_
  rintro e w3 ⟨rfl, rfl⟩
  go_wp2_with fail
  refine (isF 1 1 _).mono ?_
  rintro e w3 ⟨rfl, rfl⟩
  go_wp2_with fail
  refine (pages_nil _).mono ?_
  rintro e w3 ⟨rfl, rfl⟩
  go_wp2_with fail
  refine (copy_nil _).mono ?_
  rintro e w3 ⟨rfl, rfl⟩
  go_wp2_with fail
  refine (awake5 _).mono ?_
  rintro e w3 ⟨rfl, hf3⟩
  have F3 := hid_ (F2.out.then_none hf3)
  clear hf3
  go_wp2
  go_ret
  exact ⟨rfl, F3.out⟩

theorem nobody5_walk_i (verb n : Int) (r : Bool) (a b c d : Int) (_ : (Lit.int .i64 verb).wf = true) (_ : (Lit.int .i64 n).wf = true) (_ : (Lit.int .i64 a).wf = true) (_ : (Lit.int .i64 b).wf = true) (_ : (Lit.int .i64 c).wf = true) (_ : (Lit.int .i64 d).wf = true) (w : World) :
    Calls Try.prog 5 #[.agg #[.int .i64 verb, .int .i64 n, .bool r, .int .i64 a, .int .i64 b, .int .i64 c, .int .i64 d]] w fun e w' => e = .returned (.bool true) ∧ Fr none_ w w' :=
  nobody5_walk verb n a b c d r w
end Go.Proofs.Ytnlpnbllnddaaaa

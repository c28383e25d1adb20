/- EpochNobody's walk. -/
import Derived.Test.YtmindkphdakflaaClkAwake
import Derived.Test.YtmindkphdakflaaIs
namespace Go.Proofs.Ytmindkphdakflaa
open Go.RowKit
set_option maxRecDepth 100000
set_option linter.unusedVariables false

theorem clkCopy_nil (w : World) : Calls Try.prog 17 #[.pointer none] w fun e w' => e = .returned (.pointer none) ∧ w = w' := by
  go_enter Try.func17, Try.ntmps17
  go_wp2
  go_ret
  exact ⟨rfl, rfl⟩
theorem binLen_nil (w : World) : Calls Try.prog 9 #[.pointer none] w fun e w' => e = .returned (.int .i64 0) ∧ w = w' := by
  go_enter Try.func9, Try.ntmps9
  go_wp2
  go_ret
  exact ⟨rfl, rfl⟩
theorem binItems_nil (w : World) : Calls Try.prog 8 #[.pointer none] w fun e w' => e = .returned (.slice none 0 0) ∧ w = w' := by
  go_enter Try.func8, Try.ntmps8
  go_wp2
  go_ret
  exact ⟨rfl, rfl⟩
theorem binRipe_nil (o : Int) (w : World) : Calls Try.prog 7 #[.pointer none, .int .i64 o] w fun e w' => e = .returned (.slice none 0 0) ∧ Fr none_ w w' := by
  go_enter Try.func7, Try.ntmps7
  go_wp2
  go_ret
  exact ⟨rfl, by repeat (first | exact Fr.refl _ _ | apply Fr.drew | apply Fr.alloc)⟩
theorem binAdd_nil (a b c d : Int) (w : World) : Calls Try.prog 6 #[.pointer none, .agg #[.int .i64 a, .int .i64 b, .int .i64 c, .int .i64 d]] w fun e w' => e = .returned (.tuple #[]) ∧ Fr none_ w w' := by
  go_enter Try.func6, Try.ntmps6
  go_wp2
  exact bodyPost_end (v := .tuple #[]) (by simp [results, Try.results6, go_sem]) rfl ⟨rfl, by repeat (first | exact Fr.refl _ _ | apply Fr.drew | apply Fr.alloc)⟩

set_option maxHeartbeats 1000000 in
theorem nobody6_walk (v t at_ a b c d : Int) (w : World) :
    Calls Try.prog 4 #[.agg #[.int .i64 v, .int .i64 t, .int .i64 at_], .agg #[.int .i64 a, .int .i64 b, .int .i64 c, .int .i64 d]] w fun e w' => e = .returned (.bool true) ∧ Fr none_ w w' := by
  go_enter Try.func4, Try.ntmps4
  go_wp2_with fail
  refine (bump_nil _).mono ?_
  rintro e w1 ⟨rfl, rfl⟩
  go_wp2_with fail
  refine (at_nil t _).mono ?_
  rintro e w1 ⟨rfl, rfl⟩
  go_wp2_with fail
  refine (binAdd_nil a b c d _).mono ?_
  rintro e w1 ⟨rfl, hf1⟩
  have F1 := hid_ ((((Fr.refl none_ w).alloc (.cells #[.int .i64 v, .int .i64 t, .int .i64 at_] 37)).alloc (.cells #[.int .i64 a, .int .i64 b, .int .i64 c, .int .i64 d] 30)).then_none hf1)
  have k1 := ((Blk.new w 37 #[.int .i64 v, .int .i64 t, .int .i64 at_]).alloc (.cells #[.int .i64 a, .int .i64 b, .int .i64 c, .int .i64 d] 30)).fr hf1 id
  have K1 := hid_ k1
  have c1 : w1.cell? ⟨w.heap.size, 1, none⟩ = some (.int .i64 t) := k1.cell' rfl
  have c2 : w1.cell? ⟨w.heap.size, 2, none⟩ = some (.int .i64 at_) := k1.cell' rfl
  have z1 := k1.lt
  clear k1 hf1
  go_wp2_with fail
  refine (isF 1 1 _).mono ?_
  rintro e w3 ⟨rfl, rfl⟩
  go_wp2_with fail
  refine (isF 1 1 _).mono ?_
  rintro e w3 ⟨rfl, rfl⟩
  go_wp2_with fail
  refine (enter_nil t at_ _).mono ?_
  rintro e w3 ⟨rfl, rfl⟩
  go_wp2_with fail
  refine (isF 1 1 _).mono ?_
  rintro e w3 ⟨rfl, rfl⟩
  go_wp2_with fail
  refine (leave_nil t _).mono ?_
  rintro e w3 ⟨rfl, rfl⟩
  go_wp2_with fail
  refine (isF 1 1 _).mono ?_
  rintro e w3 ⟨rfl, rfl⟩
  go_wp2_with fail
  refine (now_nil _).mono ?_
  rintro e w3 ⟨rfl, rfl⟩
  go_wp2_with fail
  refine (oldest_nil _).mono ?_
  rintro e w3 ⟨rfl, rfl⟩
  go_wp2_with fail
  refine (clkCopy_nil _).mono ?_
  rintro e w3 ⟨rfl, rfl⟩
  go_wp2_with fail
  refine (binLen_nil _).mono ?_
  rintro e w3 ⟨rfl, rfl⟩
  go_wp2_with fail
  refine (binItems_nil _).mono ?_
  rintro e w3 ⟨rfl, rfl⟩
  go_wp2_with fail
  refine (binRipe_nil at_ _).mono ?_
  rintro e w2 ⟨rfl, hf2⟩
  have F2 := hid_ (F1.out.then_none hf2)
  clear hf2 c1 c2 z1
  go_wp2_with fail
  refine (awake6 _).mono ?_
  rintro e w3 ⟨rfl, hf3⟩
  have F3 := hid_ (F2.out.then_none hf3)
  clear hf3
  go_wp2
  go_ret
  exact ⟨rfl, F3.out⟩
theorem nobody6_walk_i (v t at_ : Int) (_ : (Lit.int .i64 v).wf = true) (_ : (Lit.int .i64 t).wf = true) (_ : (Lit.int .i64 at_).wf = true) (a b c d : Int) (_ : (Lit.int .i64 a).wf = true) (_ : (Lit.int .i64 b).wf = true) (_ : (Lit.int .i64 c).wf = true) (_ : (Lit.int .i64 d).wf = true) (w : World) :
    Calls Try.prog 4 #[.agg #[.int .i64 v, .int .i64 t, .int .i64 at_], .agg #[.int .i64 a, .int .i64 b, .int .i64 c, .int .i64 d]] w fun e w' => e = .returned (.bool true) ∧ Fr none_ w w' :=
  nobody6_walk v t at_ a b c d w
end Go.Proofs.Ytmindkphdakflaa

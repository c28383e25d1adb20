/- PlanNames: the walk. -/
import Derived.Test.YtpjbncbmdfmlpaaAw11
namespace Go.Proofs.Ytpjbncbmdfmlpaa
open Go.RowKit Go.BigFrame
set_option maxRecDepth 100000
set_option linter.unusedVariables false

abbrev nmCells : Array Value := #[.string ⟨#[]⟩, .string ⟨#[100, 111, 119, 110]⟩, .string ⟨#[97, 99, 114, 111, 115, 115]⟩, .string ⟨#[97, 103, 97, 105, 110]⟩, .string ⟨#[112, 111, 115, 116]⟩, .string ⟨#[104, 101, 108, 112]⟩, .string ⟨#[116, 105, 100, 121]⟩, .string ⟨#[115, 112, 108, 105, 116]⟩, .string ⟨#[103, 114, 111, 119]⟩, .string ⟨#[104, 111, 108, 100]⟩, .string ⟨#[97, 99, 116]⟩]
set_option maxHeartbeats 8000000 in
theorem names11_walk (k : Int) (w : World) : Calls Try.prog 5 #[.int .i64 k] w (RetQ (.bool true) w) := by
  obtain ⟨w1, hw1⟩ : ∃ z, z = w.alloc (.cells nmCells 9) := ⟨_, rfl⟩
  have B1 : Hid (Blk w1 w.heap.size 9 nmCells) := hid_ (by rw [hw1]; exact Blk.new w _ _)
  have F1 : Hid (Fr none_ w w1) := hid_ (by rw [hw1]; exact (Fr.refl none_ w).alloc _)
  by_cases h : 1 ≤ k ∧ k ≤ 10
  · rcases ten h with rfl | rfl | rfl | rfl | rfl | rfl | rfl | rfl | rfl | rfl
    · clear h
      go_enter Try.func5, Try.ntmps5
      go_upto_region 2 with fail
      change Code.wp _ _ _ _ (w.alloc (.cells nmCells 9))
      rw [← hw1]
      clear hw1
      have c0 : w1.cell? ⟨w.heap.size, 1, none⟩ = some (.string ⟨#[100, 111, 119, 110]⟩) := B1.out.cell' rfl
      go_wp2_with fail
      refine (name_ok 1 w1).mono ?_
      rintro e w2 ⟨rfl, hf⟩
      rw [show nameM 1 = (⟨#[100, 111, 119, 110]⟩ : ByteArray) from rfl]
      replace F1 := hid_ (F1.out.then_none hf)
      clear c0 hf
      go_wp2_with fail
      refine (awake11_ok w2).mono ?_
      rintro e w3 ⟨rfl, hf⟩
      go_wp2
      go_ret
      exact ⟨rfl, F1.out.then_none hf⟩
    · clear h
      go_enter Try.func5, Try.ntmps5
      go_upto_region 2 with fail
      change Code.wp _ _ _ _ (w.alloc (.cells nmCells 9))
      rw [← hw1]
      clear hw1
      have c0 : w1.cell? ⟨w.heap.size, 2, none⟩ = some (.string ⟨#[97, 99, 114, 111, 115, 115]⟩) := B1.out.cell' rfl
      go_wp2_with fail
      refine (name_ok 2 w1).mono ?_
      rintro e w2 ⟨rfl, hf⟩
      rw [show nameM 2 = (⟨#[97, 99, 114, 111, 115, 115]⟩ : ByteArray) from rfl]
      replace F1 := hid_ (F1.out.then_none hf)
      clear c0 hf
      go_wp2_with fail
      refine (awake11_ok w2).mono ?_
      rintro e w3 ⟨rfl, hf⟩
      go_wp2
      go_ret
      exact ⟨rfl, F1.out.then_none hf⟩
    · clear h
      go_enter Try.func5, Try.ntmps5
      go_upto_region 2 with fail
      change Code.wp _ _ _ _ (w.alloc (.cells nmCells 9))
      rw [← hw1]
      clear hw1
      have c0 : w1.cell? ⟨w.heap.size, 3, none⟩ = some (.string ⟨#[97, 103, 97, 105, 110]⟩) := B1.out.cell' rfl
      go_wp2_with fail
      refine (name_ok 3 w1).mono ?_
      rintro e w2 ⟨rfl, hf⟩
      rw [show nameM 3 = (⟨#[97, 103, 97, 105, 110]⟩ : ByteArray) from rfl]
      replace F1 := hid_ (F1.out.then_none hf)
      clear c0 hf
      go_wp2_with fail
      refine (awake11_ok w2).mono ?_
      rintro e w3 ⟨rfl, hf⟩
      go_wp2
      go_ret
      exact ⟨rfl, F1.out.then_none hf⟩
    · clear h
      go_enter Try.func5, Try.ntmps5
      go_upto_region 2 with fail
      change Code.wp _ _ _ _ (w.alloc (.cells nmCells 9))
      rw [← hw1]
      clear hw1
      have c0 : w1.cell? ⟨w.heap.size, 4, none⟩ = some (.string ⟨#[112, 111, 115, 116]⟩) := B1.out.cell' rfl
      go_wp2_with fail
      refine (name_ok 4 w1).mono ?_
      rintro e w2 ⟨rfl, hf⟩
      rw [show nameM 4 = (⟨#[112, 111, 115, 116]⟩ : ByteArray) from rfl]
      replace F1 := hid_ (F1.out.then_none hf)
      clear c0 hf
      go_wp2_with fail
      refine (awake11_ok w2).mono ?_
      rintro e w3 ⟨rfl, hf⟩
      go_wp2
      go_ret
      exact ⟨rfl, F1.out.then_none hf⟩
    · clear h
      go_enter Try.func5, Try.ntmps5
      go_upto_region 2 with fail
      change Code.wp _ _ _ _ (w.alloc (.cells nmCells 9))
      rw [← hw1]
      clear hw1
      have c0 : w1.cell? ⟨w.heap.size, 5, none⟩ = some (.string ⟨#[104, 101, 108, 112]⟩) := B1.out.cell' rfl
      go_wp2_with fail
      refine (name_ok 5 w1).mono ?_
      rintro e w2 ⟨rfl, hf⟩
      rw [show nameM 5 = (⟨#[104, 101, 108, 112]⟩ : ByteArray) from rfl]
      replace F1 := hid_ (F1.out.then_none hf)
      clear c0 hf
      go_wp2_with fail
      refine (awake11_ok w2).mono ?_
      rintro e w3 ⟨rfl, hf⟩
      go_wp2
      go_ret
      exact ⟨rfl, F1.out.then_none hf⟩
    · clear h
      go_enter Try.func5, Try.ntmps5
      go_upto_region 2 with fail
      change Code.wp _ _ _ _ (w.alloc (.cells nmCells 9))
      rw [← hw1]
      clear hw1
      have c0 : w1.cell? ⟨w.heap.size, 6, none⟩ = some (.string ⟨#[116, 105, 100, 121]⟩) := B1.out.cell' rfl
      go_wp2_with fail
      refine (name_ok 6 w1).mono ?_
      rintro e w2 ⟨rfl, hf⟩
      rw [show nameM 6 = (⟨#[116, 105, 100, 121]⟩ : ByteArray) from rfl]
      replace F1 := hid_ (F1.out.then_none hf)
      clear c0 hf
      go_wp2_with fail
      refine (awake11_ok w2).mono ?_
      rintro e w3 ⟨rfl, hf⟩
      go_wp2
      go_ret
      exact ⟨rfl, F1.out.then_none hf⟩
    · clear h
      go_enter Try.func5, Try.ntmps5
      go_upto_region 2 with fail
      change Code.wp _ _ _ _ (w.alloc (.cells nmCells 9))
      rw [← hw1]
      clear hw1
      have c0 : w1.cell? ⟨w.heap.size, 7, none⟩ = some (.string ⟨#[115, 112, 108, 105, 116]⟩) := B1.out.cell' rfl
      go_wp2_with fail
      refine (name_ok 7 w1).mono ?_
      rintro e w2 ⟨rfl, hf⟩
      rw [show nameM 7 = (⟨#[115, 112, 108, 105, 116]⟩ : ByteArray) from rfl]
      replace F1 := hid_ (F1.out.then_none hf)
      clear c0 hf
      go_wp2_with fail
      refine (awake11_ok w2).mono ?_
      rintro e w3 ⟨rfl, hf⟩
      go_wp2
      go_ret
      exact ⟨rfl, F1.out.then_none hf⟩
    · clear h
      go_enter Try.func5, Try.ntmps5
      go_upto_region 2 with fail
      change Code.wp _ _ _ _ (w.alloc (.cells nmCells 9))
      rw [← hw1]
      clear hw1
      have c0 : w1.cell? ⟨w.heap.size, 8, none⟩ = some (.string ⟨#[103, 114, 111, 119]⟩) := B1.out.cell' rfl
      go_wp2_with fail
      refine (name_ok 8 w1).mono ?_
      rintro e w2 ⟨rfl, hf⟩
      rw [show nameM 8 = (⟨#[103, 114, 111, 119]⟩ : ByteArray) from rfl]
      replace F1 := hid_ (F1.out.then_none hf)
      clear c0 hf
      go_wp2_with fail
      refine (awake11_ok w2).mono ?_
      rintro e w3 ⟨rfl, hf⟩
      go_wp2
      go_ret
      exact ⟨rfl, F1.out.then_none hf⟩
    · clear h
      go_enter Try.func5, Try.ntmps5
      go_upto_region 2 with fail
      change Code.wp _ _ _ _ (w.alloc (.cells nmCells 9))
      rw [← hw1]
      clear hw1
      have c0 : w1.cell? ⟨w.heap.size, 9, none⟩ = some (.string ⟨#[104, 111, 108, 100]⟩) := B1.out.cell' rfl
      go_wp2_with fail
      refine (name_ok 9 w1).mono ?_
      rintro e w2 ⟨rfl, hf⟩
      rw [show nameM 9 = (⟨#[104, 111, 108, 100]⟩ : ByteArray) from rfl]
      replace F1 := hid_ (F1.out.then_none hf)
      clear c0 hf
      go_wp2_with fail
      refine (awake11_ok w2).mono ?_
      rintro e w3 ⟨rfl, hf⟩
      go_wp2
      go_ret
      exact ⟨rfl, F1.out.then_none hf⟩
    · clear h
      go_enter Try.func5, Try.ntmps5
      go_upto_region 2 with fail
      change Code.wp _ _ _ _ (w.alloc (.cells nmCells 9))
      rw [← hw1]
      clear hw1
      have c0 : w1.cell? ⟨w.heap.size, 10, none⟩ = some (.string ⟨#[97, 99, 116]⟩) := B1.out.cell' rfl
      go_wp2_with fail
      refine (name_ok 10 w1).mono ?_
      rintro e w2 ⟨rfl, hf⟩
      rw [show nameM 10 = (⟨#[97, 99, 116]⟩ : ByteArray) from rfl]
      replace F1 := hid_ (F1.out.then_none hf)
      clear c0 hf
      go_wp2_with fail
      refine (awake11_ok w2).mono ?_
      rintro e w3 ⟨rfl, hf⟩
      go_wp2
      go_ret
      exact ⟨rfl, F1.out.then_none hf⟩
  · have hn : nameM k = nilS := if_neg h
    have HN := hid_ hn
    by_cases h1 : 1 ≤ k
    · have e1 : decide (1 ≤ k) = true := decide_eq_true h1
      have e2 : decide (k ≤ 10) = false := decide_eq_false (by omega)
      clear h hn h1
      go_enter Try.func5, Try.ntmps5
      go_wp2_with fail
      change Calls _ _ _ (w.alloc (.cells nmCells 9)) _
      rw [← hw1]
      clear hw1
      refine (name_ok k w1).mono ?_
      rintro e w2 ⟨rfl, hf⟩
      rw [HN.out]
      replace F1 := hid_ (F1.out.then_none hf)
      clear hf
      go_wp2_with fail
      refine (awake11_ok w2).mono ?_
      rintro e w3 ⟨rfl, hf⟩
      go_wp2
      go_ret
      exact ⟨rfl, F1.out.then_none hf⟩
    · have e1 : decide (1 ≤ k) = false := decide_eq_false h1
      clear h hn h1
      go_enter Try.func5, Try.ntmps5
      go_wp2_with fail
      change Calls _ _ _ (w.alloc (.cells nmCells 9)) _
      rw [← hw1]
      clear hw1
      refine (name_ok k w1).mono ?_
      rintro e w2 ⟨rfl, hf⟩
      rw [HN.out]
      replace F1 := hid_ (F1.out.then_none hf)
      clear hf
      go_wp2_with fail
      refine (awake11_ok w2).mono ?_
      rintro e w3 ⟨rfl, hf⟩
      go_wp2
      go_ret
      exact ⟨rfl, F1.out.then_none hf⟩
end Go.Proofs.Ytpjbncbmdfmlpaa

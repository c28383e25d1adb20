/- ArenaNobody's walk. Written by gen_laws4.py. -/
import Derived.Test.YtbmnphigfkiaeaaArAwake
import Derived.Test.YtbmnphigfkiaeaaLive
namespace Go.Proofs.Ytbmnphigfkiaeaa
open Go.RowKit Go.ChangeShapes Go.WideShapes
set_option maxRecDepth 100000
set_option linter.unusedVariables false

theorem reads_zero (w : World) : RecReads w Rc.zero none none := ⟨⟨rfl, fun h => absurd h (Nat.lt_irrefl 0)⟩, ⟨rfl, fun h => absurd h (Nat.lt_irrefl 0)⟩⟩
set_option maxHeartbeats 4000000 in
theorem nobody4_walk (verb : Int) (R : Rc) (A : Option Addr) (c : Nat) (B : Option Addr) (d : Nat) (sl gn : Int) (lst : Bool) (nn : Int) (w : World) :
    Calls Try.prog 8 #[.agg #[.int .i64 verb, .int .i64 R.kind, .string R.low, .string R.high, .bool R.unb, .int .i64 R.right, .slice A R.rows.length c, .slice B R.ents.length d, .string R.key, .string R.val, .int .i64 R.page, .int .i64 R.hpage, .int .i64 R.hleft, .string R.hkey, .int .i64 R.nslot, .int .i64 R.ngen, .int .i64 sl, .int .i64 gn, .bool lst, .int .u8 nn]] w fun e w' => e = .returned (.bool true) ∧ Fr none_ w w' := by
  obtain ⟨w0, hw0⟩ : ∃ w0, w0 = w.alloc (.cells #[.int .i64 verb, .int .i64 R.kind, .string R.low, .string R.high, .bool R.unb, .int .i64 R.right, .slice A R.rows.length c, .slice B R.ents.length d, .string R.key, .string R.val, .int .i64 R.page, .int .i64 R.hpage, .int .i64 R.hleft, .string R.hkey, .int .i64 R.nslot, .int .i64 R.ngen, .int .i64 sl, .int .i64 gn, .bool lst, .int .u8 nn] 45) := ⟨_, rfl⟩
  have F0 : Hid (Fr none_ w w0) := hid_ (by rw [hw0]; exact (Fr.refl none_ w).alloc _)
  have D0 : Hid (Blk w0 w.heap.size 45 #[.int .i64 verb, .int .i64 R.kind, .string R.low, .string R.high, .bool R.unb, .int .i64 R.right, .slice A R.rows.length c, .slice B R.ents.length d, .string R.key, .string R.val, .int .i64 R.page, .int .i64 R.hpage, .int .i64 R.hleft, .string R.hkey, .int .i64 R.nslot, .int .i64 R.ngen, .int .i64 sl, .int .i64 gn, .bool lst, .int .u8 nn]) := hid_ (by rw [hw0]; exact Blk.new w _ _)
  by_cases h1 : 60 < (R.rows.length : Int)
  · go_enter Try.func8, Try.ntmps8
    go_wp2_with fail
    refine (awake4 _).mono ?_
    rintro e w1 ⟨rfl, hf1⟩
    go_wp2
    go_ret
    exact ⟨rfl, ((Fr.refl none_ w).alloc _).then_none hf1⟩
  by_cases h2 : 60 < (R.ents.length : Int)
  · go_enter Try.func8, Try.ntmps8
    go_wp2_with fail
    refine (awake4 _).mono ?_
    rintro e w1 ⟨rfl, hf1⟩
    go_wp2
    go_ret
    exact ⟨rfl, ((Fr.refl none_ w).alloc _).then_none hf1⟩
  go_enter Try.func8, Try.ntmps8
  go_wp2_with fail
  refine (alloc_nil R (.slice A R.rows.length c) (.slice B R.ents.length d) _).mono ?_
  rw [← hw0]
  clear hw0
  rintro e w1 ⟨rfl, hf1⟩
  have D1 := hid_ (D0.out.fr hf1 id)
  have F1 := hid_ (F0.out.then_none hf1)
  clear hf1
  have c16 : w1.cell? ⟨w.heap.size, 16, none⟩ = some (.int .i64 sl) := D1.out.cell' rfl
  have c17 : w1.cell? ⟨w.heap.size, 17, none⟩ = some (.int .i64 gn) := D1.out.cell' rfl
  have l1 := D1.out.lt
  go_wp2_with fail
  refine (load_nil sl gn).mono ?_
  rintro e w2 ⟨rfl, hf2⟩
  have D2 := hid_ ((D1.out.alloc (.cells #[.int .i64 0, .int .i64 0] 27)).fr hf2 id)
  have X2 := hid_ ((Blk.new w1 27 #[.int .i64 0, .int .i64 0]).fr hf2 id)
  have F2 := hid_ ((F1.out.alloc (.cells #[.int .i64 0, .int .i64 0] 27)).then_none hf2)
  clear hf2 c16 c17 l1
  have x0 : w2.cell? ⟨w1.heap.size, 0, none⟩ = some (.int .i64 0) := X2.out.cell' rfl
  have x1 : w2.cell? ⟨w1.heap.size, 1, none⟩ = some (.int .i64 0) := X2.out.cell' rfl
  have xl := X2.out.lt
  go_wp2_with fail
  refine (isF 1 1 _).mono ?_
  rintro e w3 ⟨rfl, rfl⟩
  go_wp2_with fail
  refine (same4_ok Rc.zero none 0 none 0 none 0 none 0 _ (reads_zero _) (reads_zero _) (Nat.zero_le _) (Nat.zero_le _)).mono ?_
  rintro e w3 ⟨rfl, hf3⟩
  have D3 := hid_ ((D2.out.alloc (.cells recZ 29)).fr hf3 id)
  have F3 := hid_ ((F2.out.alloc (.cells recZ 29)).then_none hf3)
  clear hf3 x0 x1 xl
  go_wp2_with fail
  refine (isF 1 1 _).mono ?_
  rintro e w4 ⟨rfl, rfl⟩
  have c16 : w3.cell? ⟨w.heap.size, 16, none⟩ = some (.int .i64 sl) := D3.out.cell' rfl
  have c17 : w3.cell? ⟨w.heap.size, 17, none⟩ = some (.int .i64 gn) := D3.out.cell' rfl
  go_wp2_with fail
  refine (free_nil sl gn).mono ?_
  rintro e w4 ⟨rfl, hf4⟩
  have F4 := hid_ (F3.out.then_none hf4)
  clear hf4 c16 c17
  go_wp2_with fail
  refine (isF 1 1 _).mono ?_
  rintro e w5 ⟨rfl, rfl⟩
  go_wp2_with fail
  refine (live_nil _).mono ?_
  rintro e w5 ⟨rfl, rfl⟩
  go_wp2_with fail
  refine (left_nil _).mono ?_
  rintro e w5 ⟨rfl, rfl⟩
  go_wp2_with fail
  refine (copy_nil _).mono ?_
  rintro e w5 ⟨rfl, rfl⟩
  go_wp2_with fail
  refine (awake4 _).mono ?_
  rintro e w5 ⟨rfl, hf5⟩
  go_wp2
  go_ret
  exact ⟨rfl, F4.out.then_none hf5⟩
theorem nobody4_walk_i {H : Type} {enc : TypeId × Value → H} (verb : Int) (x0 : Int) (x1 : ByteArray) (x2 : ByteArray) (x3 : Bool) (x4 : Int) (vr : Value) (ve : Value) (x7 : ByteArray) (x8 : ByteArray) (x9 : Int) (x10 : Int) (x11 : Int) (x12 : ByteArray) (x13 : Int) (x14 : Int) (sl gn : Int) (lst : Bool) (nn : Int) (w : World) (wv : (Lit.int .i64 verb).wf = true) (w0 : (Lit.int .i64 x0).wf = true) (w1 : x1.size ≤ reachBytes) (w2 : x2.size ≤ reachBytes) (w4 : (Lit.int .i64 x4).wf = true) (hA : Conf enc Try.prog w (.slice 22) vr) (hB : Conf enc Try.prog w (.slice 23) ve) (w7 : x7.size ≤ reachBytes) (w8 : x8.size ≤ reachBytes) (w9 : (Lit.int .i64 x9).wf = true) (w10 : (Lit.int .i64 x10).wf = true) (w11 : (Lit.int .i64 x11).wf = true) (w12 : x12.size ≤ reachBytes) (w13 : (Lit.int .i64 x13).wf = true) (w14 : (Lit.int .i64 x14).wf = true) (v1 : (Lit.int .i64 sl).wf = true) (v2 : (Lit.int .i64 gn).wf = true) (v3 : (Lit.int .u8 nn).wf = true) :
    Calls Try.prog 8 #[.agg #[.int .i64 verb, .int .i64 x0, .string x1, .string x2, .bool x3, .int .i64 x4, vr, ve, .string x7, .string x8, .int .i64 x9, .int .i64 x10, .int .i64 x11, .string x12, .int .i64 x13, .int .i64 x14, .int .i64 sl, .int .i64 gn, .bool lst, .int .u8 nn]] w fun e w' => e = .returned (.bool true) ∧ Fr none_ w w' := by
  obtain ⟨A, n, c, L, rfl, -, -, -, hL⟩ := rows_conf hA
  obtain ⟨B, m, d, M, rfl, -, -, -, hM⟩ := ents_conf hB
  obtain rfl := hL.1
  obtain rfl := hM.1
  exact nobody4_walk verb ⟨x0, x1, x2, x3, x4, L, M, x7, x8, x9, x10, x11, x12, x13, x14⟩ A c B d sl gn lst nn w
end Go.Proofs.Ytbmnphigfkiaeaa

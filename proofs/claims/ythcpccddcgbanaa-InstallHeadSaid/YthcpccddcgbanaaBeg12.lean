/- An installer's Begin, where there are no new pages; of no job. Written by gen_beg12.py. -/
import Derived.Test.YthcpccddcgbanaaMade12
namespace Go.Proofs.Ythcpccddcgbanaa
open Go.RowKit
set_option maxRecDepth 100000
set_option linter.unusedVariables false

theorem eq_func (f : Fn) (a b : Array Value) (w : World) : (binOp .eql 49 (.func f a b) .nilFunc).run Try.prog w = .ok (.bool false) w := by rfl
theorem eq_nilf (w : World) : (binOp .eql 49 .nilFunc .nilFunc).run Try.prog w = .ok (.bool true) w := by rfl
abbrev dt0 (page os og news stage : Int) (hd : Rc) (err : Int) : Dt := ⟨page, os, og, news, stage, [], [], hd, [], 0, false, err⟩
abbrev ia0 (mv vr ve ev : Value) : Ia := ⟨mv, .slice none 0 0, .slice none 0 0, .slice none 0 0, [], vr, ve, ev⟩
theorem inst_new {w : World} {B i : Nat} (page os og news stage : Int) (mv ev : Value) (err : Int) (hB : B ≤ i) (hb : Blk w i 92 (inA (dt0 page os og news stage Rc.zero err) (ia0 mv (.slice none 0 0) (.slice none 0 0) ev))) (he : Er w ev err) : Inst w B i (dt0 page os og news stage Rc.zero err) (ia0 mv (.slice none 0 0) (.slice none 0 0) ev) :=
  ⟨hb, World.ownsRow_nil _ _ _ _, World.ownsRow_nil _ _ _ _, rfl, (fun C hC => by cases hC), World.ownsRow_nil _ _ _ _, RecOwn.zero _ _, he, hB, (fun R hR => by cases hR), ⟨Nat.zero_le _, Nat.zero_le _⟩, ⟨Nat.zero_le _, Nat.zero_le _, Nat.zero_le _⟩⟩
def BegPost (page os og : Int) (mv : Value) (hd : Rc) (w : World) (e : Ending) (w' : World) : Prop :=
  ∃ i vr ve, e = .returned (.pointer (some ⟨i, 0, none⟩)) ∧ Inst w' w.heap.size i (dt0 page os og 0 3 hd 0) (ia0 mv vr ve .nilIface) ∧ Fr none_ w w'
set_option maxHeartbeats 8000000 in
theorem begin0 {w : World} (page os og : Int) (bc : Nat) (hd : Rc) (hz : RowsOk hd)
    (hcall : ∀ (w1 : World) (u : Value), Fr none_ w w1 → Calls Try.prog 27 #[u, .pointer (some ⟨bc, 0, none⟩)] w1 fun e w2 => ∃ Ar cr Ae ce, e = .returned (.tuple #[.slice none 0 0, recV hd (.slice Ar hd.rows.length cr) (.slice Ae hd.ents.length ce)]) ∧ RecOwn w2 0 hd (.slice Ar hd.rows.length cr) (.slice Ae hd.ents.length ce) ∧ Fr none_ w1 w2) :
    Calls Try.prog 11 #[.agg #[.int .i64 page, .int .i64 os, .int .i64 og, .int .i64 0, (.func (.func 27) #[] #[.pointer (some ⟨bc, 0, none⟩)])]] w (BegPost page os og (.func (.func 27) #[] #[.pointer (some ⟨bc, 0, none⟩)]) hd w) := by
  have HC := hid_ hcall
  have HZ := hid_ hz
  clear hcall hz
  have F := hid_ (Fr.refl none_ w)
  have qf1 := eq_func
  have qf2 := eq_nilf
  go_enter Try.func11, Try.ntmps11
  go_upto_region 1 with fail
  obtain ⟨w0, hw0⟩ : ∃ z, z = w.alloc (.cells #[.int .i64 page, .int .i64 os, .int .i64 og, .int .i64 0, (.func (.func 27) #[] #[.pointer (some ⟨bc, 0, none⟩)])] 51) := ⟨_, rfl⟩
  have fw0 : Fr none_ w w0 := by rw [hw0]; exact (Fr.refl none_ w).alloc _
  have BJ : Hid (Blk w0 w.heap.size 51 (#[.int .i64 page, .int .i64 os, .int .i64 og, .int .i64 0, (.func (.func 27) #[] #[.pointer (some ⟨bc, 0, none⟩)])])) := hid_ (by rw [hw0]; exact Blk.new w _ _)
  replace F := hid_ (F.out.then_none fw0)
  change Code.wp _ _ _ _ (w.alloc (.cells #[.int .i64 page, .int .i64 os, .int .i64 og, .int .i64 0, (.func (.func 27) #[] #[.pointer (some ⟨bc, 0, none⟩)])] 51))
  rw [← hw0]
  clear hw0 fw0
  have j0 : w0.cell? ⟨w.heap.size, 0, none⟩ = some (.int .i64 page) := BJ.out.cell' rfl
  have j1 : w0.cell? ⟨w.heap.size, 1, none⟩ = some (.int .i64 os) := BJ.out.cell' rfl
  have j2 : w0.cell? ⟨w.heap.size, 2, none⟩ = some (.int .i64 og) := BJ.out.cell' rfl
  have j3 : w0.cell? ⟨w.heap.size, 3, none⟩ = some (.int .i64 0) := BJ.out.cell' rfl
  have j4 : w0.cell? ⟨w.heap.size, 4, none⟩ = some (.func (.func 27) #[] #[.pointer (some ⟨bc, 0, none⟩)]) := BJ.out.cell' rfl
  have HL := hid_ (Nat.le_of_lt BJ.out.lt)
  go_upto_region 2 with fail
  clear j0 j1 j2 j3 j4
  obtain ⟨w1, hw1⟩ : ∃ z, z = w0.alloc (.cells (inA (dt0 page os og 0 0 Rc.zero 0) (ia0 (.func (.func 27) #[] #[.pointer (some ⟨bc, 0, none⟩)]) (.slice none 0 0) (.slice none 0 0) .nilIface)) 92) := ⟨_, rfl⟩
  have fw1 : Fr none_ w0 w1 := by rw [hw1]; exact (Fr.refl none_ w0).alloc _
  have BI : Hid (Blk w1 w0.heap.size 92 (inA (dt0 page os og 0 0 Rc.zero 0) (ia0 (.func (.func 27) #[] #[.pointer (some ⟨bc, 0, none⟩)]) (.slice none 0 0) (.slice none 0 0) .nilIface))) := hid_ (by rw [hw1]; exact Blk.new w0 _ _)
  replace F := hid_ (F.out.then_none fw1)
  replace BJ := hid_ (BJ.out.fr fw1 id)
  change Code.wp _ _ _ _ (w0.alloc (.cells (inA (dt0 page os og 0 0 Rc.zero 0) (ia0 (.func (.func 27) #[] #[.pointer (some ⟨bc, 0, none⟩)]) (.slice none 0 0) (.slice none 0 0) .nilIface)) 92))
  rw [← hw1]
  clear hw1 fw1
  have j3 : w1.cell? ⟨w.heap.size, 3, none⟩ = some (.int .i64 0) := BJ.out.cell' rfl
  have j4 : w1.cell? ⟨w.heap.size, 4, none⟩ = some (.func (.func 27) #[] #[.pointer (some ⟨bc, 0, none⟩)]) := BJ.out.cell' rfl
  have I1 := hid_ (inst_new (B := w.heap.size) page os og 0 0 (.func (.func 27) #[] #[.pointer (some ⟨bc, 0, none⟩)]) .nilIface 0 HL.out BI.out (.inl rfl))
  go_wp2_with fail
  refine (made0 I1.out bc rfl rfl rfl hd HZ.out (fun w2 u hf => HC.out w2 u (F.out.then_none hf))).mono ?_
  rintro e w2 ⟨vr, ve, rfl, hI, hf⟩
  have I2 := hid_ (And.intro hI (F.out.then_only hf (.inr HL.out)))
  clear hI hf j3 j4
  go_wp2_with fail
  go_ret
  exact ⟨_, vr, ve, rfl, I2.out.1, I2.out.2⟩
theorem begin_nil {w : World} (news : Int) : Calls Try.prog 11 #[.agg #[.int .i64 0, .int .i64 0, .int .i64 0, .int .i64 news, .nilFunc]] w fun e w' => ∃ i, e = .returned (.pointer (some ⟨i, 0, none⟩)) ∧ Inst w' w.heap.size i (dt0 0 0 0 news 7 Rc.zero 1) (ia0 .nilFunc (.slice none 0 0) (.slice none 0 0) (errV 1)) ∧ Fr none_ w w' := by
  have F := hid_ (Fr.refl none_ w)
  have qf1 := eq_func
  have qf2 := eq_nilf
  go_enter Try.func11, Try.ntmps11
  go_upto_region 1 with fail
  obtain ⟨w0, hw0⟩ : ∃ z, z = w.alloc (.cells #[.int .i64 0, .int .i64 0, .int .i64 0, .int .i64 news, .nilFunc] 51) := ⟨_, rfl⟩
  have fw0 : Fr none_ w w0 := by rw [hw0]; exact (Fr.refl none_ w).alloc _
  have BJ : Hid (Blk w0 w.heap.size 51 (#[.int .i64 0, .int .i64 0, .int .i64 0, .int .i64 news, .nilFunc])) := hid_ (by rw [hw0]; exact Blk.new w _ _)
  replace F := hid_ (F.out.then_none fw0)
  change Code.wp _ _ _ _ (w.alloc (.cells #[.int .i64 0, .int .i64 0, .int .i64 0, .int .i64 news, .nilFunc] 51))
  rw [← hw0]
  clear hw0 fw0
  have j0 : w0.cell? ⟨w.heap.size, 0, none⟩ = some (.int .i64 0) := BJ.out.cell' rfl
  have j1 : w0.cell? ⟨w.heap.size, 1, none⟩ = some (.int .i64 0) := BJ.out.cell' rfl
  have j2 : w0.cell? ⟨w.heap.size, 2, none⟩ = some (.int .i64 0) := BJ.out.cell' rfl
  have j3 : w0.cell? ⟨w.heap.size, 3, none⟩ = some (.int .i64 news) := BJ.out.cell' rfl
  have j4 : w0.cell? ⟨w.heap.size, 4, none⟩ = some (.nilFunc) := BJ.out.cell' rfl
  have HL := hid_ (Nat.le_of_lt BJ.out.lt)
  go_upto_region 2 with fail
  clear j0 j1 j2 j3 j4
  obtain ⟨w1, hw1⟩ : ∃ z, z = w0.alloc (.cells (inA (dt0 0 0 0 news 0 Rc.zero 0) (ia0 .nilFunc (.slice none 0 0) (.slice none 0 0) .nilIface)) 92) := ⟨_, rfl⟩
  have fw1 : Fr none_ w0 w1 := by rw [hw1]; exact (Fr.refl none_ w0).alloc _
  have BI : Hid (Blk w1 w0.heap.size 92 (inA (dt0 0 0 0 news 0 Rc.zero 0) (ia0 .nilFunc (.slice none 0 0) (.slice none 0 0) .nilIface))) := hid_ (by rw [hw1]; exact Blk.new w0 _ _)
  replace F := hid_ (F.out.then_none fw1)
  replace BJ := hid_ (BJ.out.fr fw1 id)
  change Code.wp _ _ _ _ (w0.alloc (.cells (inA (dt0 0 0 0 news 0 Rc.zero 0) (ia0 .nilFunc (.slice none 0 0) (.slice none 0 0) .nilIface)) 92))
  rw [← hw1]
  clear hw1 fw1
  have j4 : w1.cell? ⟨w.heap.size, 4, none⟩ = some .nilFunc := BJ.out.cell' rfl
  have y5 := BI.out.frozen 5
  have y26 := BI.out.frozen 26
  have i5 : w1.cell? ⟨w0.heap.size, 5, none⟩ = some (.int .i64 0) := BI.out.cell' rfl
  have i26 : w1.cell? ⟨w0.heap.size, 26, none⟩ = some .nilIface := BI.out.cell' rfl
  go_wp2_with fail
  have f9 : Fr (only w0.heap.size) w1 ((w1.setCell ⟨w0.heap.size, 5, none⟩ (.int .i64 7)).setCell ⟨w0.heap.size, 26, none⟩ (errV 1)) := (Fr.only1 w1 ⟨w0.heap.size, 5, none⟩ (.int .i64 7)).trans (Fr.only1 _ ⟨w0.heap.size, 26, none⟩ (errV 1)) (fun _ _ => id) (fun _ _ => id)
  have B9 := (BI.out.set_ 5 (.int .i64 7)).set_ 26 (errV 1)
  go_ret
  exact ⟨_, rfl, inst_new (B := w.heap.size) 0 0 0 news 7 .nilFunc (errV 1) 1 HL.out B9 (.inl rfl), F.out.then_only f9 (.inr HL.out)⟩
end Go.Proofs.Ythcpccddcgbanaa

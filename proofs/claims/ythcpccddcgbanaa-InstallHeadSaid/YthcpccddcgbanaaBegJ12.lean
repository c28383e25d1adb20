/- An installer's Begin, of a job of the law's. Written by gen_ins9.py. -/
import Derived.Test.YthcpccddcgbanaaMadeJ12
import Derived.Test.YthcpccddcgbanaaBeg12
namespace Go.Proofs.Ythcpccddcgbanaa
open Go.RowKit
set_option maxRecDepth 100000
set_option linter.unusedVariables false

def begD (J : Jd) : Dt := if 0 ≤ J.news ∧ J.news ≤ 4 then (if J.news = 0 then madeD J (dt0 J.page J.os J.og J.news 0 Rc.zero 0) else dt0 J.page J.os J.og J.news 0 Rc.zero 0) else dt0 J.page J.os J.og J.news 7 Rc.zero 1
def begC (J : Jd) (c0 : Int) : Int := if J.news = 0 then wrap64 (c0 + 1) else c0
theorem begD_ok (J : Jd) : DOk (begD J) ∧ (begD J).news = J.news ∧ ((begD J).stage = 7 → (begD J).done = false ∧ ¬ (0 ≤ J.news ∧ J.news ≤ 4)) ∧ (begD J).refs = [] ∧ (begD J).pages = [] ∧ (begD J).page = J.page ∧ (begD J).os = J.os ∧ (begD J).og = J.og ∧ (begD J).done = false := by
  unfold begD
  split
  · rename_i h
    split
    · rename_i h0
      have e : madeD J (dt0 J.page J.os J.og J.news 0 Rc.zero 0) = ⟨J.page, J.os, J.og, J.news, 3, [], jbases J J.news.toNat, jhead J [], [], 0, false, 0⟩ := by unfold madeD; simp [h0]
      rw [e]
      exact ⟨⟨fun _ => h, by simp, fun e => by simp at e, fun e => by simp at e, fun e => by simp at e, fun _ => ⟨by show ((0 : Nat) : Int) = J.news; omega, by show ((0 : Nat) : Int) = J.news; omega⟩, fun e => by simp at e, fun e => by simp at e, fun e => by simp at e, fun e => by simp at e, fun e => by simp at e, by simp, by simp⟩, rfl, fun e => by simp at e, rfl, rfl, rfl, rfl, rfl, rfl⟩
    · rename_i h0
      exact ⟨⟨fun _ => h, by simp, fun _ => ⟨rfl, rfl, by show ((0 : Nat) : Int) < J.news; omega⟩, fun e => by simp at e, fun e => by simp at e, fun e => by simp at e, fun e => by simp at e, fun e => by simp at e, fun e => by simp at e, fun e => by simp at e, fun e => by simp at e, by simp, by simp⟩, rfl, fun e => by simp at e, rfl, rfl, rfl, rfl, rfl, rfl⟩
  · rename_i h
    exact ⟨⟨fun e => by simp at e, by simp, fun e => by simp at e, fun e => by simp at e, fun e => by simp at e, fun e => by simp at e, fun e => by simp at e, fun e => by simp at e, fun e => by simp at e, fun e => by simp at e, fun e => rfl, by simp, by simp⟩, rfl, fun _ => ⟨rfl, h⟩, rfl, rfl, rfl, rfl, rfl, rfl⟩
def BegJ (J : Jd) (q : Jl) (c0 : Int) (w : World) (e : Ending) (w' : World) : Prop :=
  ∃ i a, e = .returned (.pointer (some ⟨i, 0, none⟩)) ∧ Inst w' w.heap.size i (begD J) a ∧ a.mv = jobF q.jb q.cb ∧ w'.cell? ⟨q.cab, q.cao, none⟩ = some (.int .i64 (if 0 ≤ J.news ∧ J.news ≤ 4 then begC J c0 else c0)) ∧ (∃ cs, Blk w' q.cab 3 cs) ∧ Fr (only q.cab) w w'
set_option maxHeartbeats 8000000 in
theorem begJ {W w : World} {J : Jd} {q : Jl} (hj : JobAt W w J q) (c0 : Int) (hc : w.cell? ⟨q.cab, q.cao, none⟩ = some (.int .i64 c0)) (hcb : ∃ cs, Blk w q.cab 3 cs) (hzJ : RowsOk J.head ∧ ∀ R ∈ J.bases, RowsOk R) :
    Calls Try.prog 11 #[.agg #[.int .i64 J.page, .int .i64 J.os, .int .i64 J.og, .int .i64 J.news, (jobF q.jb q.cb)]] w (BegJ J q c0 w) := by
  obtain ⟨cs0, hcb⟩ := hcb
  have hltc := hcb.lt
  have F := hid_ (Fr.refl none_ w)
  have HJ := hid_ hj
  have HC := hid_ hc
  have HCB := hid_ hcb
  have HZ := hid_ hzJ
  have HLC := hid_ hltc
  clear hj hc hcb hzJ hltc
  have qf1 := eq_func
  go_enter Try.func11, Try.ntmps11
  go_upto_region 1 with fail
  obtain ⟨w0, hw0⟩ : ∃ z, z = w.alloc (.cells #[.int .i64 J.page, .int .i64 J.os, .int .i64 J.og, .int .i64 J.news, (jobF q.jb q.cb)] 51) := ⟨_, rfl⟩
  have fw0 : Fr none_ w w0 := by rw [hw0]; exact (Fr.refl none_ w).alloc _
  have BJ : Hid (Blk w0 w.heap.size 51 (#[.int .i64 J.page, .int .i64 J.os, .int .i64 J.og, .int .i64 J.news, (jobF q.jb q.cb)])) := hid_ (by rw [hw0]; exact Blk.new w _ _)
  replace F := hid_ (F.out.then_none fw0)
  replace HJ := hid_ (HJ.out.keep fw0)
  replace HCB := hid_ (HCB.out.fr fw0 id)
  replace HC := hid_ (cellFr HC.out fw0)
  change Code.wp _ _ _ _ (w.alloc (.cells #[.int .i64 J.page, .int .i64 J.os, .int .i64 J.og, .int .i64 J.news, (jobF q.jb q.cb)] 51))
  rw [← hw0]
  clear hw0 fw0
  have j0 : w0.cell? ⟨w.heap.size, 0, none⟩ = some (.int .i64 J.page) := BJ.out.cell' rfl
  have j1 : w0.cell? ⟨w.heap.size, 1, none⟩ = some (.int .i64 J.os) := BJ.out.cell' rfl
  have j2 : w0.cell? ⟨w.heap.size, 2, none⟩ = some (.int .i64 J.og) := BJ.out.cell' rfl
  have j3 : w0.cell? ⟨w.heap.size, 3, none⟩ = some (.int .i64 J.news) := BJ.out.cell' rfl
  have j4 : w0.cell? ⟨w.heap.size, 4, none⟩ = some ((jobF q.jb q.cb)) := BJ.out.cell' rfl
  have HL := hid_ (Nat.le_of_lt BJ.out.lt)
  go_upto_region 2 with fail
  clear j0 j1 j2 j3 j4
  obtain ⟨w1, hw1⟩ : ∃ z, z = w0.alloc (.cells (inA (dt0 J.page J.os J.og J.news 0 Rc.zero 0) (ia0 (jobF q.jb q.cb) (.slice none 0 0) (.slice none 0 0) .nilIface)) 92) := ⟨_, rfl⟩
  have fw1 : Fr none_ w0 w1 := by rw [hw1]; exact (Fr.refl none_ w0).alloc _
  have BI : Hid (Blk w1 w0.heap.size 92 (inA (dt0 J.page J.os J.og J.news 0 Rc.zero 0) (ia0 (jobF q.jb q.cb) (.slice none 0 0) (.slice none 0 0) .nilIface))) := hid_ (by rw [hw1]; exact Blk.new w0 _ _)
  replace F := hid_ (F.out.then_none fw1)
  replace HJ := hid_ (HJ.out.keep fw1)
  replace HCB := hid_ (HCB.out.fr fw1 id)
  replace BJ := hid_ (BJ.out.fr fw1 id)
  replace HC := hid_ (cellFr HC.out fw1)
  change Code.wp _ _ _ _ (w0.alloc (.cells (inA (dt0 J.page J.os J.og J.news 0 Rc.zero 0) (ia0 (jobF q.jb q.cb) (.slice none 0 0) (.slice none 0 0) .nilIface)) 92))
  rw [← hw1]
  clear hw1 fw1
  have j3 : w1.cell? ⟨w.heap.size, 2 + 1, none⟩ = some (.int .i64 J.news) := BJ.out.cell' rfl
  have j4 : w1.cell? ⟨w.heap.size, 4, none⟩ = some (jobF q.jb q.cb) := BJ.out.cell' rfl
  have I1 := hid_ (inst_new (B := w.heap.size) J.page J.os J.og J.news 0 (jobF q.jb q.cb) .nilIface 0 HL.out BI.out (.inl rfl))
  have y5 := BI.out.frozen 5
  have y26 := BI.out.frozen 26
  have i5 : w1.cell? ⟨w0.heap.size, 5, none⟩ = some (.int .i64 0) := BI.out.cell' rfl
  have i26 : w1.cell? ⟨w0.heap.size, 26, none⟩ = some .nilIface := BI.out.cell' rfl
  have HLL := hid_ (show q.cab ≠ w0.heap.size by have := F.out.size; have := HLC.out; have := HL.out; omega)
  have HNF := hid_ (show ¬ foot w0.heap.size (ia0 (jobF q.jb q.cb) (.slice none 0 0) (.slice none 0 0) .nilIface) q.cab from fun e => by have h1 := I1.out.foot_le e; have h2 := HLC.out; omega)
  by_cases g0 : J.news < 0
  · have dd0 : decide (J.news < 0) = true := by simpa using g0
    have G := hid_ (show ¬ (0 ≤ J.news ∧ J.news ≤ 4) by omega)
    clear g0
    go_wp2_with fail
    have f9 : Fr (only w0.heap.size) w1 ((w1.setCell ⟨w0.heap.size, 5, none⟩ (.int .i64 7)).setCell ⟨w0.heap.size, 26, none⟩ (errV 1)) := (Fr.only1 w1 ⟨w0.heap.size, 5, none⟩ (.int .i64 7)).trans (Fr.only1 _ ⟨w0.heap.size, 26, none⟩ (errV 1)) (fun _ _ => id) (fun _ _ => id)
    have B9 := (BI.out.set_ 5 (.int .i64 7)).set_ 26 (errV 1)
    have I9 := inst_new (B := w.heap.size) J.page J.os J.og J.news 7 (jobF q.jb q.cb) (errV 1) 1 HL.out B9 (.inl rfl)
    go_ret
    refine ⟨_, _, rfl, by rw [show begD J = dt0 J.page J.os J.og J.news 7 Rc.zero 1 from if_neg G.out]; exact I9, rfl, ?_, ⟨_, HCB.out.fr f9 (only_ne HLL.out)⟩, (F.out.mono (fun _ _ e => e.elim)).then_only f9 (.inr HL.out)⟩
    rw [if_neg G.out]
    exact cellFrS HC.out f9 (only_ne HLL.out)
  have dd0 : decide (J.news < 0) = false := by simpa using g0
  by_cases g1 : 4 < J.news
  · have dd1 : decide (4 < J.news) = true := by simpa using g1
    have dd2 : decide (J.news > 4) = true := by simpa using g1
    have G := hid_ (show ¬ (0 ≤ J.news ∧ J.news ≤ 4) by omega)
    clear g0 g1
    go_wp2_with fail
    have f9 : Fr (only w0.heap.size) w1 ((w1.setCell ⟨w0.heap.size, 5, none⟩ (.int .i64 7)).setCell ⟨w0.heap.size, 26, none⟩ (errV 1)) := (Fr.only1 w1 ⟨w0.heap.size, 5, none⟩ (.int .i64 7)).trans (Fr.only1 _ ⟨w0.heap.size, 26, none⟩ (errV 1)) (fun _ _ => id) (fun _ _ => id)
    have B9 := (BI.out.set_ 5 (.int .i64 7)).set_ 26 (errV 1)
    have I9 := inst_new (B := w.heap.size) J.page J.os J.og J.news 7 (jobF q.jb q.cb) (errV 1) 1 HL.out B9 (.inl rfl)
    go_ret
    refine ⟨_, _, rfl, by rw [show begD J = dt0 J.page J.os J.og J.news 7 Rc.zero 1 from if_neg G.out]; exact I9, rfl, ?_, ⟨_, HCB.out.fr f9 (only_ne HLL.out)⟩, (F.out.mono (fun _ _ e => e.elim)).then_only f9 (.inr HL.out)⟩
    rw [if_neg G.out]
    exact cellFrS HC.out f9 (only_ne HLL.out)
  have dd1 : decide (4 < J.news) = false := by simpa using g1
  have dd2 : decide (J.news > 4) = false := by simpa using g1
  have G := hid_ (show 0 ≤ J.news ∧ J.news ≤ 4 by omega)
  clear g0 g1 i5 i26 y5 y26
  by_cases g2 : J.news = 0
  · have dd3 : (J.news == 0) = true := by simp [g2]
    have G2 := hid_ g2
    clear g2
    go_wp2_with fail
    refine (madeJ I1.out HJ.out rfl c0 HC.out cs0 HCB.out HNF.out G.out rfl HZ.out F.out.size).mono ?_
    rintro e w5 ⟨a5, rfl, hI5, hf5, hfl5, hmv5, hcc5, hcb5⟩
    have P5 := hid_ (And.intro hI5 (And.intro hf5 (And.intro hmv5 (And.intro hcc5 hcb5))))
    clear hI5 hf5 hfl5 hmv5 hcc5 hcb5 j3 j4
    go_wp2_with fail
    go_ret
    refine ⟨_, a5, rfl, ?_, P5.out.2.2.1, ?_, P5.out.2.2.2.2, (F.out.mono (S' := only q.cab) (fun _ _ e => e.elim)).trans P5.out.2.1 (fun _ _ => id) (fun g hg e => ?_)⟩
    · rw [show begD J = madeD J (dt0 J.page J.os J.og J.news 0 Rc.zero 0) by unfold begD; rw [if_pos G.out, if_pos G2.out]]
      exact P5.out.1
    · rw [if_pos G.out, show begC J c0 = wrap64 (c0 + 1) from if_pos G2.out]
      exact P5.out.2.2.2.1
    · rcases e with e | e
      · have := I1.out.foot_le e
        omega
      · exact e
  · have dd3 : (J.news == 0) = false := by simp [g2]
    have G2 := hid_ g2
    clear g2
    go_wp2_with fail
    go_ret
    refine ⟨_, ia0 (jobF q.jb q.cb) (.slice none 0 0) (.slice none 0 0) .nilIface, rfl, ?_, rfl, ?_, ⟨_, HCB.out⟩, F.out.mono (fun _ _ e => e.elim)⟩
    · rw [show begD J = dt0 J.page J.os J.og J.news 0 Rc.zero 0 by unfold begD; rw [if_pos G.out, if_neg G2.out]]
      exact I1.out
    · rw [if_pos G.out, show begC J c0 = c0 from if_neg G2.out]
      exact HC.out
end Go.Proofs.Ythcpccddcgbanaa

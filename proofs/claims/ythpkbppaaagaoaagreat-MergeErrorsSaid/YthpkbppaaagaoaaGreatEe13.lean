/- A helper of an inner page, and one of a page that is not used, run to their ends. -/
import Derived.Test.YthpkbppaaagaoaaGreatMhN
import Derived.Test.YthpkbppaaagaoaaGreatEd13
namespace Go.Proofs.YthpkbppaaagaoaaGreat
open Go.RowKit Go.BigFrame
set_option maxRecDepth 100000
set_option linter.unusedVariables false
def mgh (m : Nat) (x : St) (g h : Nat) : Nat → Prop := fun q => mall m x q ∨ q = g ∨ q = h
def endH (H : Hm) (v : Value) : Hm := { H with over := true, done := false, ev := v }
section
variable {b0 m h g : Nat} {k : Int} {l : Lm} {x : St} {w w1 w2 : World} {H : Hm} {j A cap : Nat} {s0 g0 n : Int}
def KindI (b0 m h g : Nat) (k : Int) (l : Lm) (x : St) (H : Hm) (j : Nat) (s0 g0 : Int) (w : World) (i : Nat) (w1 : World) : Prop :=
  HpB w1 h H ∧ Fr (mgh m x g h) w w1 ∧ ((i = 1 ∧ Ldr b0 w1 g (LdS.new 0) ∧ Mm w1 m k l x) ∨ (i = 0 ∧ Mm w1 m (k + 1) l x ∧ ∃ s, Ldr b0 w1 g s ∧ LdPh x.ss [j] 0 s0 g0 1 s ∧ ∀ q, lfoot g s q → q = g ∨ w.heap.size ≤ q))
theorem oneI_of {s : LdS} (hR : PRec (recOf x.ss j) ∧ (recOf x.ss j).kind = 7 ∧ Sound (baseV (recOf x.ss j))) (hp : LdPh x.ss [j] 0 s0 g0 2 s) : OneI s := by
  have hl := hp.len
  have hls := hp.ls
  have hC : ∀ C ∈ s.L, C.R = recOf x.ss j := fun C hC => by
    have h1 : C.R ∈ s.L.map (·.R) := List.mem_map.2 ⟨C, hC, rfl⟩
    rw [hls] at h1
    simpa using h1
  refine ⟨hl.1, fun C h => ?_, fun C h => ?_, by rw [hl.2]; decide⟩
  · rw [hC C h]
    exact hR.1.ok
  · rw [hC C h]
    exact ⟨by have := hR.1.zr; omega, hR.1.ze, hR.2⟩
theorem runs_kind (hb : HpB w h H) (ho : H.over = false) (hl : H.lv = .pointer (some ⟨g, 0, none⟩)) (hld : Ldr b0 w g (LdS.new 0)) (hM : Mm w m k l x) (hmb : ∀ i, mall m x i → i < b0) (h0 : 0 ≤ k) (h1 : k ≤ 900) (hp : x.ps[0]? = some (true, s0, g0)) (hli : Links x.ss [j] s0 g0)
    (hR : PRec (recOf x.ss j) ∧ (recOf x.ss j).kind = 7 ∧ Sound (baseV (recOf x.ss j))) (hs : 1 ≤ l.s) (hc : w.cell? ⟨A, 0, none⟩ = some (.pointer (some ⟨h, 0, none⟩))) :
    Calls Tryz.prog 27 #[.slice (some ⟨A, 0, none⟩) 1 cap, .pointer (some ⟨m, 0, none⟩)] w fun e w' => e = .returned (.bool true) ∧ HpB w' h (endH H (errV 9)) ∧ Mm w' m (k + 2) l x ∧ Fr (mgh m x g h) w w' := by
  refine runs_by 1 (by omega) (KindI b0 m h g k l x H j s0 g0 w) (fun w' => HpB w' h (endH H (errV 9)) ∧ Mm w' m (k + 2) l x ∧ Fr (mgh m x g h) w w') ⟨hb, Fr.refl _ _, .inl ⟨rfl, hld, hM⟩⟩ hc ?_
  rintro i w1 ⟨hb1, hf1, hcase⟩
  rcases hcase with ⟨rfl, hl1, hM1⟩ | ⟨rfl, hM1, s, hl1, hph, hfo⟩
  · refine hstep_load (R := fun b w2 => b = false ∧ KindI b0 m h g k l x H j s0 g0 w 0 w2) hb1 ho hl ((step_ph hl1 hM1 hmb h0 (by omega) (LdPh.new x.ss [j] 0 s0 g0) (Nat.zero_le _) ⟨0, rfl, hp⟩ hli (by simp) (by simpa using hs) (by simp)).mono ?_) (fun w2 hr => .inr ⟨0, rfl, rfl, hr.2⟩) (fun w2 hr => absurd hr.1 (by decide)) ?_
    · rintro e w2 ⟨s', rfl, a1, a2, a3, a4, a5⟩
      refine ⟨_, rfl, by simp, hb1.fr a4 (lown_off hM1 hl1 hb1 (by decide) (by decide)), hf1.trans a4 (fun _ _ e => e) ?_, .inr ⟨rfl, a3, s', a2, a1, ?_⟩⟩
      · rintro q hq (e | e | e | e)
        · exact .inl e
        · exact .inr (.inl e)
        · cases e
        · cases e
      · rintro q (e | e | e)
        · exact .inl e
        · rcases a5.1 q e with e | e
          · cases e
          · exact .inr (Nat.le_trans hf1.size e)
        · rcases a5.2 q e with e | e
          · cases e
          · exact .inr (Nat.le_trans hf1.size e)
    · rintro e w' (⟨_, rfl, _⟩ | ⟨_, _, rfl, _⟩) <;> exact ⟨_, rfl⟩
  · refine hstep_load (R := fun b w2 => b = true ∧ HpB w2 h H ∧ Fr (mgh m x g h) w w2 ∧ Mm w2 m (k + 2) l x ∧ ∃ s, Ldr b0 w2 g s ∧ LdPh x.ss [j] 0 s0 g0 2 s) hb1 ho hl ((step_phK hl1 hM1 hmb (by omega) (by omega) hph (Nat.le_refl _) (by omega) hli (by simp) (by simpa using hs) (by simp)).mono ?_) (fun w2 hr => absurd hr.1 (by decide)) (fun w2 hr => ?_) ?_
    · rintro e w2 ⟨s', rfl, a1, a2, a3, a4, a5⟩
      refine ⟨_, rfl, by simp, hb1.fr a4 (lown_off hM1 hl1 hb1 (by decide) (by decide)), hf1.trans a4 (fun _ _ e => e) ?_, by rw [show k + 2 = k + 1 + 1 by omega]; exact a3, s', a2, a1⟩
      rintro q hq e
      rcases e with e | e
      · exact .inl e
      · rcases hfo q e with e | e
        · exact .inr (.inl e)
        · exact absurd hq (by omega)
    · obtain ⟨_, hb2, hf2, hM2, s2, hl2, hp2⟩ := hr
      have hd := LdPh.done (js := [j]) hp2
      refine (loaded_kind hb2 hl (ldPageI_made hl2 hd.1 hd.2.1 (oneI_of hR hp2))).mono ?_
      rintro e w3 ⟨rfl, e1, e2⟩
      exact .inl ⟨rfl, rfl, e1, hM2.beside e2 hb2 (by decide) (by decide), hf2.then_only e2 (.inl (.inr (.inr rfl)))⟩
    · rintro e w' (⟨_, rfl, _⟩ | ⟨_, _, rfl, _⟩) <;> exact ⟨_, rfl⟩
theorem runs_bad (hb : HpB w h H) (ho : H.over = false) (hl : H.lv = .pointer (some ⟨g, 0, none⟩)) (hld : Ldr b0 w g (LdS.new n)) (hM : Mm w m k l x) (hmb : ∀ i, mall m x i → i < b0) (h0 : 0 ≤ k) (h1 : k ≤ 900) (hn : pgC x.ps n ≠ 0) (hc : w.cell? ⟨A, 0, none⟩ = some (.pointer (some ⟨h, 0, none⟩))) :
    Calls Tryz.prog 27 #[.slice (some ⟨A, 0, none⟩) 1 cap, .pointer (some ⟨m, 0, none⟩)] w fun e w' => e = .returned (.bool true) ∧ ∃ v, HpB w' h (endH H v) ∧ Ev w' v sTable9 n (pgC x.ps n) ∧ Fr (mgh m x g h) w w' := by
  refine runs_by 0 (by omega) (fun i w1 => i = 0 ∧ w1 = w) (fun w' => ∃ v, HpB w' h (endH H v) ∧ Ev w' v sTable9 n (pgC x.ps n) ∧ Fr (mgh m x g h) w w') ⟨rfl, rfl⟩ hc ?_
  rintro i w1 ⟨rfl, rfl⟩
  refine hstep_load (R := fun b w2 => b = true ∧ HpB w2 h H ∧ Fr (mgh m x g h) w1 w2 ∧ ∃ v, Ev w2 v sTable9 n (pgC x.ps n) ∧ Ldr b0 w2 g { LdS.new n with over := true, ve := v }) hb ho hl ((step_firstO hld hM hmb h0 (by omega) rfl rfl).mono ?_) (fun w2 hr => absurd hr.1 (by decide)) (fun w2 hr => ?_) ?_
  · rintro e w2 ⟨a, b, c, v, hd, hev, hmm, hf, hcase⟩
    have hce : c = pgC x.ps n := by
      rcases hd with ⟨i, e1, e2, _⟩ | ⟨_, _, _, e4⟩
      · exact absurd (by rw [show n = (i : Int) from e1]; exact pgC_used e2) hn
      · exact e4
    have hc0 : c ≠ 0 := by rw [hce]; exact hn
    rcases hcase with ⟨_, rfl, hl2⟩ | ⟨e1, _⟩ | ⟨e1, _⟩
    · refine ⟨_, rfl, rfl, hb.fr hf (lown_off hM hld hb (by decide) (by decide)), hf.mono ?_, v, by rw [← hce]; exact hev, hl2⟩
      rintro q hq (e | e | e | e)
      · exact .inl e
      · exact .inr (.inl e)
      · cases e
      · cases e
    · exact absurd e1 hc0
    · exact absurd e1 hc0
  · obtain ⟨_, hb2, hf2, v, hev, hl2⟩ := hr
    rcases id hev with ⟨e, _⟩ | ⟨_, b, hv, hbb⟩
    · exact absurd e hn
    · refine (loaded_err _ _ hb2 hl (ldPage_err _ _ hl2 rfl hv)).mono ?_
      rintro e w3 ⟨rfl, e1, e2⟩
      refine .inl ⟨rfl, rfl, v, by rw [hv]; exact e1, hev.fr e2 (fun b cs hq => only_ne (Blk.ne_ hq hb2 (by decide))), hf2.then_only e2 (.inl (.inr (.inr rfl)))⟩
  · rintro e w' (⟨_, rfl, _⟩ | ⟨_, _, rfl, _⟩) <;> exact ⟨_, rfl⟩
end
end Go.Proofs.YthpkbppaaagaoaaGreat

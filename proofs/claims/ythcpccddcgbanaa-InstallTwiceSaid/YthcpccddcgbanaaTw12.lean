/- A memory's live refs and pages; the document's SameRefs; a job that is too late leaves nothing. -/
import Derived.Test.YthcpccddcgbanaaMany12
import Derived.Test.YthcpccddcgbanaaLiv
import Derived.BigQuiet
namespace Go.Proofs.Ythcpccddcgbanaa
open Go.RowKit
set_option maxRecDepth 100000
set_option linter.unusedVariables false

theorem memLive_ok {m : Nat} {k : Int} {l : Lm} {x : St} (w : World) (h : Mm w m k l x) : Calls Try.prog 20 #[.pointer (some ⟨m, 0, none⟩)] w (LivePost x.ss w) := by
  have c7 : w.cell? ⟨m, 7, none⟩ = some (.pointer (some ⟨x.a, 0, none⟩)) := h.b.cell' rfl
  have H := hid_ h
  clear h
  go_enter Try.func20, Try.ntmps20
  go_wp2_with fail
  refine (live_ok _ H.out.ar).mono ?_
  rintro e w1 ⟨A, c, rfl, ho, hf⟩
  have P := hid_ (And.intro ho hf)
  clear ho hf
  go_wp2_with fail
  go_ret
  exact ⟨A, c, rfl, P.out.1, P.out.2⟩
theorem memPages_ok {m : Nat} {k : Int} {l : Lm} {x : St} (w : World) (h : Mm w m k l x) : Calls Try.prog 21 #[.pointer (some ⟨m, 0, none⟩)] w (PagesPost x.ps w) := by
  have c8 : w.cell? ⟨m, 8, none⟩ = some (.pointer (some ⟨x.T, 0, none⟩)) := h.b.cell' rfl
  have H := hid_ h
  clear h
  go_enter Try.func21, Try.ntmps21
  go_wp2_with fail
  refine (pages_ok _ _ _ _ H.out.tb).mono ?_
  rintro e w1 ⟨A, c, rfl, ho, hf⟩
  have P := hid_ (And.intro ho hf)
  clear ho hf
  go_wp2_with fail
  go_ret
  exact ⟨A, c, rfl, P.out.1, P.out.2⟩
theorem rf_row {w : World} {B n c : Nat} {A : Option Addr} {X : List Rf} (h : w.ownsRow B 34 2 (.slice A n c) n (rfFlat X)) (hn : X.length = n) {k : Nat} {p : Rf} (hp : X[k]? = some p) : ∃ g, A = some ⟨g, 0, none⟩ ∧ g < w.heap.size ∧ w.cell? ⟨g, k * 2, none⟩ = some (.int .i64 p.1) ∧ w.cell? ⟨g, k * 2 + 1, none⟩ = some (.int .i64 p.2) := by
  have hkl : k < X.length := (List.getElem?_eq_some_iff.1 hp).1
  obtain ⟨A', c', e, _, _, hpp⟩ := own_parts h
  obtain ⟨g, hg, hlt, hcell⟩ := hpp (by omega)
  have e2 : rfFlat X = rf9Flat X := rfl
  rw [e2] at hcell
  have := rf9_get X k p hp
  exact ⟨g, by injection e with e1 _ _; rw [e1, hg], hlt, hcell _ _ this.1, hcell _ _ this.2⟩
set_option maxHeartbeats 4000000 in
theorem sameRefs12 (X : List Rf) (A B : Option Addr) (c d b1 b2 : Nat) (w : World) (hl : X.length ≤ 5000) (h1 : w.ownsRow b1 34 2 (.slice A X.length c) X.length (rfFlat X)) (h2 : w.ownsRow b2 34 2 (.slice B X.length d) X.length (rfFlat X)) : Calls Try.prog 22 #[.slice A X.length c, .slice B X.length d] w fun e w' => e = .returned (.bool true) ∧ Fr none_ w w' := by
  have H1 := hid_ h1
  have H2 := hid_ h2
  clear h1 h2
  go_enter Try.func22, Try.ntmps22
  go_wp2_with fail
  go_loopw [5] (fun i wr => ∃ k : Nat, k ≤ X.length ∧ i = .int .i64 k ∧ Fr none_ w wr) (fun i _ => X.length - (intOf i).toNat)
  case atStart => exact ⟨0, Nat.zero_le _, rfl, Fr.refl _ _⟩
  case round =>
    obtain ⟨k, hk, rfl, hfr⟩ := hrel
    have FR := hid_ hfr
    have hi0 : (0 : Int) ≤ (k : Int) := Int.natCast_nonneg _
    clear hfr
    by_cases hlt : k < X.length
    · obtain ⟨p, hp⟩ : ∃ p, X[k]? = some p := ⟨_, List.getElem?_eq_getElem hlt⟩
      obtain ⟨g1, rfl, hb1, x0, x1⟩ := rf_row (own_none H1.out FR.out) rfl hp
      obtain ⟨g2, rfl, hb2, y0, y1⟩ := rf_row (own_none H2.out FR.out) rfl hp
      have hi1 : (k : Int) < (X.length : Int) := by omega
      have hq : ∀ w', (binOp .neq 34 (.agg #[.int .i64 p.1, .int .i64 p.2]) (.agg #[.int .i64 p.1, .int .i64 p.2])).run Try.prog w' = .ok (.bool false) w' := fun w' => by rw [neq_ref]; simp
      clear hp
      go_wp2_with fail
      go_quiet (fail)
      go_wp2_with fail
      go_roundw
      case rel => exact ⟨k + 1, by omega, by go_num, by repeat (first | exact FR.out | apply Fr.drewN | apply Fr.drew)⟩
      case measure => simp [intOf]; omega
    · have hi1 : ¬ (k : Int) < (X.length : Int) := by omega
      go_wp2_with fail
      go_ret
      exact ⟨rfl, FR.out⟩

/-! ### Too late: nothing stays -/
structure Tw (ss0 : List Sl) (ps0 : List Pg) (D : Dt) (x : St) : Prop where
  ls : x.ss.length = ss0.length
  lp : x.ps.length = ps0.length
  sA : ∀ r ∈ D.refs, ∃ (i : Nat) (y y0 : Sl), r = ((i : Int) + 1, y.gen) ∧ x.ss[i]? = some y ∧ ss0[i]? = some y0 ∧ y.used = true ∧ y0.used = false
  sB : ∀ (i : Nat) (y y0 : Sl), x.ss[i]? = some y → ss0[i]? = some y0 → (∀ r ∈ D.refs, r.1 ≠ (i : Int) + 1) → y.used = y0.used ∧ (y.used = true → y.gen = y0.gen)
  nr : (D.refs.map (·.1)).Nodup
  pA : ∀ p ∈ D.pages, ∃ (i : Nat) (q q0 : Pg), p = (i : Int) ∧ x.ps[i]? = some q ∧ ps0[i]? = some q0 ∧ q.1 = true ∧ q0.1 = false
  pB : ∀ (i : Nat) (q q0 : Pg), x.ps[i]? = some q → ps0[i]? = some q0 → (i : Int) ∉ D.pages → q.1 = q0.1
  np : D.pages.Nodup
theorem Tw.same {ss0 : List Sl} {ps0 : List Pg} {D D' : Dt} {x : St} (h : Tw ss0 ps0 D x) (hr : D'.refs = D.refs) (hp : D'.pages = D.pages) : Tw ss0 ps0 D' x :=
  ⟨h.ls, h.lp, by rw [hr]; exact h.sA, by rw [hr]; exact h.sB, by rw [hr]; exact h.nr, by rw [hp]; exact h.pA, by rw [hp]; exact h.pB, by rw [hp]; exact h.np⟩
theorem Tw.alloc {ss0 : List Sl} {ps0 : List Pg} {D : Dt} {x : St} {n : Int} {R : Rc} {sl gn kk : Int} {ss' : List Sl} (h : Tw ss0 ps0 D x) (ha : AllocR n x.ss R sl gn kk ss') : (kk = 0 → Tw ss0 ps0 { D with refs := D.refs ++ [(sl, gn)] } { x with ss := ss' }) ∧ (kk ≠ 0 → Tw ss0 ps0 D { x with ss := ss' }) := by
  rcases ha with ⟨i, s, vr, ve, h1, h2, h3, rfl, rfl, rfl, rfl⟩ | ⟨h1, rfl, rfl, rfl, rfl⟩
  · refine ⟨fun _ => ?_, fun e => absurd rfl e⟩
    have hil := (List.getElem?_eq_some_iff.1 h1).1
    have hnew : ∀ r ∈ D.refs, r.1 ≠ (i : Int) + 1 := fun r hr e => by
      obtain ⟨i', y, y0, rfl, g1, g2, g3, g4⟩ := h.sA r hr
      obtain rfl : i' = i := by have : ((i' : Int) + 1) = (i : Int) + 1 := e; omega
      rw [h1] at g1
      obtain rfl := Option.some.inj g1
      rw [h2.1] at g3
      cases g3
    obtain ⟨y0, hy0⟩ : ∃ y0, ss0[i]? = some y0 := ⟨_, List.getElem?_eq_getElem (by rw [← h.ls]; exact hil)⟩
    have hu0 : y0.used = false := by rw [← (h.sB i s y0 h1 hy0 hnew).1]; exact h2.1
    refine ⟨by show (x.ss.set i _).length = _; rw [List.length_set]; exact h.ls, h.lp, fun r hr => ?_, fun j y yj hj hj0 hno => ?_, ?_, h.pA, h.pB, h.np⟩
    · rcases List.mem_append.1 hr with hr | hr
      · obtain ⟨i', y, y1, rfl, g1, g2, g3, g4⟩ := h.sA r hr
        have hne : i' ≠ i := fun e => by subst e; rw [h1] at g1; obtain rfl := Option.some.inj g1; rw [h2.1] at g3; cases g3
        exact ⟨i', y, y1, rfl, by show (x.ss.set i _)[i']? = _; rw [List.getElem?_set_ne (Ne.symm hne)]; exact g1, g2, g3, g4⟩
      · obtain rfl : r = ((i : Int) + 1, s.gen + 1) := by simpa using hr
        exact ⟨i, ⟨s.gen + 1, true, R, vr, ve⟩, y0, rfl, by show (x.ss.set i _)[i]? = _; rw [List.getElem?_set_self hil], hy0, rfl, hu0⟩
    · have hji : j ≠ i := fun e => by
        subst e
        exact hno _ (List.mem_append.2 (.inr (List.mem_singleton.2 rfl))) rfl
      have hj' : x.ss[j]? = some y := by
        have : (x.ss.set i _)[j]? = some y := hj
        rwa [List.getElem?_set_ne (Ne.symm hji)] at this
      exact h.sB j y yj hj' hj0 (fun r hr => hno r (List.mem_append.2 (.inl hr)))
    · rw [List.map_append]
      refine List.nodup_append.2 ⟨h.nr, by simp, fun a ha b hb => ?_⟩
      obtain rfl : b = (i : Int) + 1 := by simpa using hb
      obtain ⟨r, hr, rfl⟩ := List.mem_map.1 ha
      exact hnew r hr
  · exact ⟨fun e => absurd e (allocErr_pos _), fun _ => h⟩
theorem Tw.take {ss0 : List Sl} {ps0 : List Pg} {D : Dt} {x : St} {p c : Int} {ps' : List Pg} (h : Tw ss0 ps0 D x) (ht : TakeR x.ps p c ps') : (c = 0 → Tw ss0 ps0 { D with pages := D.pages ++ [p] } { x with ps := ps' }) ∧ (c ≠ 0 → Tw ss0 ps0 D { x with ps := ps' }) := by
  rcases ht with ⟨i, s, g, h1, h2, rfl, rfl, rfl⟩ | ⟨_, rfl, rfl, rfl⟩
  · refine ⟨fun _ => ?_, fun e => absurd rfl e⟩
    have hil := (List.getElem?_eq_some_iff.1 h1).1
    have hnew : (i : Int) ∉ D.pages := fun hr => by
      obtain ⟨i', q, q0, e, g1, g2, g3, g4⟩ := h.pA _ hr
      obtain rfl : i' = i := by omega
      rw [h1] at g1
      obtain rfl := Option.some.inj g1
      cases g3
    obtain ⟨q0, hq0⟩ : ∃ q0, ps0[i]? = some q0 := ⟨_, List.getElem?_eq_getElem (by rw [← h.lp]; exact hil)⟩
    have hu0 : q0.1 = false := (h.pB i _ q0 h1 hq0 hnew).symm
    refine ⟨h.ls, by show (x.ps.set i _).length = _; rw [List.length_set]; exact h.lp, h.sA, h.sB, h.nr, fun r hr => ?_, fun j y yj hj hj0 hno => ?_, ?_⟩
    · rcases List.mem_append.1 hr with hr1 | hr
      · obtain ⟨i', q, q1, rfl, g1, g2, g3, g4⟩ := h.pA r hr1
        have hne : i' ≠ i := fun e => by subst e; exact hnew hr1
        exact ⟨i', q, q1, rfl, by show (x.ps.set i _)[i']? = _; rw [List.getElem?_set_ne (Ne.symm hne)]; exact g1, g2, g3, g4⟩
      · obtain rfl : r = (i : Int) := by simpa using hr
        exact ⟨i, (true, 0, 0), q0, rfl, by show (x.ps.set i _)[i]? = _; rw [List.getElem?_set_self hil], hq0, rfl, hu0⟩
    · have hji : j ≠ i := fun e => by
        subst e
        exact hno (List.mem_append.2 (.inr (List.mem_singleton.2 rfl)))
      have hj' : x.ps[j]? = some y := by
        have : (x.ps.set i _)[j]? = some y := hj
        rwa [List.getElem?_set_ne (Ne.symm hji)] at this
      exact h.pB j y yj hj' hj0 (fun hr => hno (List.mem_append.2 (.inl hr)))
    · refine List.nodup_append.2 ⟨h.np, by simp, fun a ha b hb => ?_⟩
      obtain rfl : b = (i : Int) := by simpa using hb
      rintro rfl
      exact hnew ha
  · exact ⟨fun e => absurd e (by decide), fun _ => h⟩
theorem swapPs_used (ps : List Pg) (i : Nat) (s g a b c d : Int) (h : ps[i]? = some (true, s, g)) (j : Nat) : ((swapPs ps i s g a b c d)[j]?).map (fun (p : Pg) => p.1) = (ps[j]?).map (fun (p : Pg) => p.1) := by
  unfold swapPs
  split
  · rcases Nat.decEq j i with hji | hji
    · rw [List.getElem?_set_ne (fun e => hji e.symm)]
    · subst hji
      rw [List.getElem?_set_self (List.getElem?_eq_some_iff.1 h).1, h]
      rfl
  · rfl
theorem Tw.swap {ss0 : List Sl} {ps0 : List Pg} {D : Dt} {x : St} {n a b c d k : Int} {ok : Bool} {ps' : List Pg} (h : Tw ss0 ps0 D x) (hs : SwapR x.ps n a b c d ok k ps') : Tw ss0 ps0 D { x with ps := ps' } := by
  have hu : ps'.length = x.ps.length ∧ ∀ j : Nat, (ps'[j]?).map (fun (p : Pg) => p.1) = (x.ps[j]?).map (fun (p : Pg) => p.1) := by
    rcases hs with ⟨i, s, g, rfl, h1, _, _, rfl⟩ | ⟨_, _, _, rfl⟩
    · exact ⟨by unfold swapPs; split <;> simp, fun j => swapPs_used _ _ _ _ _ _ _ _ h1 j⟩
    · exact ⟨rfl, fun j => rfl⟩
  have back : ∀ (j : Nat) (q : Pg), ps'[j]? = some q → ∃ q', x.ps[j]? = some q' ∧ q'.1 = q.1 := fun j q hq => by
    have := hu.2 j
    rw [hq] at this
    cases e : x.ps[j]? with
    | none => rw [e] at this; cases this
    | some q' => rw [e] at this; exact ⟨q', rfl, (by simpa using this.symm)⟩
  have forth : ∀ (j : Nat) (q : Pg), x.ps[j]? = some q → ∃ q', ps'[j]? = some q' ∧ q'.1 = q.1 := fun j q hq => by
    have := hu.2 j
    rw [hq] at this
    cases e : ps'[j]? with
    | none => rw [e] at this; cases this
    | some q' => rw [e] at this; exact ⟨q', rfl, (by simpa using this)⟩
  refine ⟨h.ls, hu.1.trans h.lp, h.sA, h.sB, h.nr, fun p hp => ?_, fun j q q0 hq hq0 hno => ?_, h.np⟩
  · obtain ⟨i, q, q0, rfl, g1, g2, g3, g4⟩ := h.pA p hp
    obtain ⟨q', e1, e2⟩ := forth i q g1
    exact ⟨i, q', q0, rfl, e1, g2, e2.trans g3, g4⟩
  · obtain ⟨q', e1, e2⟩ := back j q hq
    rw [← e2]
    exact h.pB j q' q0 e1 hq0 hno
theorem dropLast_notin {α : Type} {l : List α} {a : α} (h : l.Nodup) (hl : l.getLast? = some a) : a ∉ l.dropLast ∧ l.dropLast.Nodup ∧ ∀ b ∈ l, b = a ∨ b ∈ l.dropLast := by
  have hne : l ≠ [] := by rintro rfl; simp at hl
  have e : l = l.dropLast ++ [a] := by
    have e := List.dropLast_concat_getLast hne
    rw [List.getLast?_eq_some_getLast hne] at hl
    rw [← Option.some.inj hl]
    exact e.symm
  rw [e] at h
  obtain ⟨h1, h2, h3⟩ := List.nodup_append.1 h
  refine ⟨fun hm => h3 a hm a (by simp) rfl, h1, fun b hb => ?_⟩
  rw [e] at hb
  rcases List.mem_append.1 hb with hb | hb
  · exact .inr hb
  · exact .inl (by simpa using hb)
theorem atC_live {ss : List Sl} {i : Nat} {y : Sl} (h : ss[i]? = some y) (hu : y.used = true) : atC ss ((i : Int) + 1) y.gen = 0 := by
  rcases atC_cases ss ((i : Int) + 1) y.gen with ⟨h1, h2⟩ | ⟨j, z, h1, h2, h3⟩
  · have hil := (List.getElem?_eq_some_iff.1 h).1
    exfalso
    omega
  · obtain rfl : j = i := by omega
    obtain rfl := Option.some.inj (h.symm.trans h2)
    rcases h3 with ⟨h3, h4⟩ | ⟨h3, _⟩
    · exact absurd ⟨hu, rfl⟩ h4
    · exact h3
theorem Tw.free {ss0 : List Sl} {ps0 : List Pg} {D : Dt} {x : St} {s g c : Int} {ss' : List Sl} (h : Tw ss0 ps0 D x) (hl : D.refs.getLast? = some (s, g)) (hf : FreeR x.ss s g c ss') : Tw ss0 ps0 { D with refs := D.refs.dropLast } { x with ss := ss' } := by
  obtain ⟨i, y, y0, e, g1, g2, g3, g4⟩ := h.sA _ (getLast_mem hl)
  have e1 : s = (i : Int) + 1 := congrArg Prod.fst e
  have e2 : g = y.gen := congrArg Prod.snd e
  subst e1
  subst e2
  have hil := (List.getElem?_eq_some_iff.1 g1).1
  have hml : (D.refs.map (·.1)).getLast? = some ((i : Int) + 1) := by rw [List.getLast?_map, hl]; rfl
  obtain ⟨n1, n2, n3⟩ := dropLast_notin h.nr hml
  rw [← List.map_dropLast] at n1 n2 n3
  rcases hf with ⟨i', y', h1, h2, h3, h4, rfl, rfl⟩ | ⟨h1, _⟩
  · obtain rfl : i' = i := by omega
    obtain rfl := Option.some.inj (g1.symm.trans h2)
    refine ⟨by show (x.ss.set i' _).length = _; rw [List.length_set]; exact h.ls, h.lp, fun r hr => ?_, fun j z z0 hj hj0 hno => ?_, n2, h.pA, h.pB, h.np⟩
    · obtain ⟨k, z, z0, rfl, k1, k2, k3, k4⟩ := h.sA r (List.dropLast_subset _ hr)
      have hne : k ≠ i' := fun e => by
        subst e
        exact n1 (List.mem_map.2 ⟨_, hr, rfl⟩)
      exact ⟨k, z, z0, rfl, by show (x.ss.set i' _)[k]? = _; rw [List.getElem?_set_ne (Ne.symm hne)]; exact k1, k2, k3, k4⟩
    · rcases Nat.decEq j i' with hji | hji
      · have hj' : x.ss[j]? = some z := by
          have : (x.ss.set i' _)[j]? = some z := hj
          rwa [List.getElem?_set_ne (fun e => hji e.symm)] at this
        refine h.sB j z z0 hj' hj0 (fun r hr e => ?_)
        rcases n3 r.1 (List.mem_map.2 ⟨r, hr, rfl⟩) with e3 | e3
        · exact hji (by omega)
        · obtain ⟨r2, hr2, e4⟩ := List.mem_map.1 e3
          exact hno r2 hr2 (by rw [e4]; exact e)
      · subst hji
        have : (x.ss.set j _)[j]? = some z := hj
        rw [List.getElem?_set_self hil] at this
        obtain rfl := Option.some.inj this
        obtain rfl := Option.some.inj (g2.symm.trans hj0)
        exact ⟨g4.symm, fun e => by cases e⟩
  · exact absurd (atC_live g1 g3) h1
theorem Tw.give {ss0 : List Sl} {ps0 : List Pg} {D : Dt} {x : St} {p c : Int} {ps' : List Pg} (h : Tw ss0 ps0 D x) (hl : D.pages.getLast? = some p) (hg : GiveR x.ps p c ps') : Tw ss0 ps0 { D with pages := D.pages.dropLast } { x with ps := ps' } := by
  obtain ⟨i, q, q0, rfl, g1, g2, g3, g4⟩ := h.pA _ (getLast_mem hl)
  have hil := (List.getElem?_eq_some_iff.1 g1).1
  obtain ⟨n1, n2, n3⟩ := dropLast_notin h.np hl
  rcases hg with ⟨i', s, g, h1, h2, rfl, rfl⟩ | ⟨h1, _⟩
  · obtain rfl : i' = i := by omega
    refine ⟨h.ls, by show (x.ps.set i' _).length = _; rw [List.length_set]; exact h.lp, h.sA, h.sB, h.nr, fun r hr => ?_, fun j z z0 hj hj0 hno => ?_, n2⟩
    · obtain ⟨k, z, z0, rfl, k1, k2, k3, k4⟩ := h.pA r (List.dropLast_subset _ hr)
      have hne : k ≠ i' := fun e => by subst e; exact n1 hr
      exact ⟨k, z, z0, rfl, by show (x.ps.set i' _)[k]? = _; rw [List.getElem?_set_ne (Ne.symm hne)]; exact k1, k2, k3, k4⟩
    · rcases Nat.decEq j i' with hji | hji
      · have hj' : x.ps[j]? = some z := by
          have : (x.ps.set i' _)[j]? = some z := hj
          rwa [List.getElem?_set_ne (fun e => hji e.symm)] at this
        refine h.pB j z z0 hj' hj0 (fun hr => ?_)
        rcases n3 _ hr with e3 | e3
        · exact hji (by omega)
        · exact hno e3
      · subst hji
        have : (x.ps.set j _)[j]? = some z := hj
        rw [List.getElem?_set_self hil] at this
        obtain rfl := Option.some.inj this
        obtain rfl := Option.some.inj (g2.symm.trans hj0)
        exact g4.symm
  · obtain ⟨u, s, g⟩ := q
    have e : u = true := g3
    subst e
    exact absurd (pgC_used g1) h1
theorem Tw.step {ss0 : List Sl} {ps0 : List Pg} {n : Int} {J : Jd} {D D' : Dt} {x x' : St} (h : Tw ss0 ps0 D x) (hs : StepR n J D x D' x') : Tw ss0 ps0 D' x' := by
  cases hs with
  | take hst ht =>
    obtain ⟨t1, t2⟩ := h.take ht
    unfold takeD
    split
    · rename_i hc
      split
      · exact (t1 hc).same rfl rfl
      · exact t1 hc
    · rename_i hc
      exact (t2 hc).same rfl rfl
  | put hst hR ha =>
    obtain ⟨t1, t2⟩ := h.alloc ha
    unfold putB
    split
    · rename_i hc
      split
      · exact (t1 hc).same rfl rfl
      · exact (t1 hc).same rfl rfl
    · rename_i hc
      exact (t2 hc).same rfl rfl
  | link hst hp hr hw =>
    have t := h.swap hw
    unfold linkD
    split
    · split
      · exact t.same rfl rfl
      · exact t.same rfl rfl
    · exact t.same rfl rfl
  | head hst ha =>
    obtain ⟨t1, t2⟩ := h.alloc ha
    unfold fwd3D
    split
    · rename_i hc
      exact (t1 hc).same rfl rfl
    · rename_i hc
      exact (t2 hc).same rfl rfl
  | swap hst hr hw =>
    have t := h.swap hw
    unfold fwd4D
    split
    · exact t.same rfl rfl
    · exact t.same rfl rfl
  | free hst hr hf => exact (h.free hr hf).same rfl rfl
  | give hst hp hg => exact (h.give hp hg).same rfl rfl
/-- Who is over and not done has nothing left. -/
def End7 (D : Dt) : Prop := D.stage = 7 → D.done = false → D.refs = [] ∧ D.pages = []
theorem End7.undo (D : Dt) (c : Int) : End7 (undoD D c) := by
  intro h _
  unfold undoD at h ⊢
  by_cases hr : D.refs.length = 0
  · by_cases hp : D.pages.length = 0
    · exact ⟨List.eq_nil_of_length_eq_zero hr, List.eq_nil_of_length_eq_zero hp⟩
    · simp [hr, hp] at h
  · simp [hr] at h
theorem End7.step {n : Int} {J : Jd} {D D' : Dt} {x x' : St} (hD : DOk D) (hs : StepR n J D x D' x') : End7 D' := by
  cases hs with
  | take hst ht =>
    unfold takeD
    split
    · split
      · intro h _
        unfold madeD at h
        have h : (if D.news = 0 then (3 : Int) else 1) = 7 := h
        split at h <;> cases h
      · intro h _
        have h : D.stage = 7 := h
        omega
    · exact End7.undo _ _
  | put hst hR ha =>
    unfold putB
    split
    · split
      · intro h _
        have h : (2 : Int) = 7 := h
        cases h
      · intro h _
        have h : D.stage = 7 := h
        omega
    · exact End7.undo _ _
  | link hst hp hr hw =>
    unfold linkD
    split
    · split
      · intro h _
        have h : (3 : Int) = 7 := h
        cases h
      · intro h _
        have h : D.stage = 7 := h
        omega
    · exact End7.undo _ _
  | head hst ha =>
    unfold fwd3D
    split
    · intro h _
      have h : (4 : Int) = 7 := h
      cases h
    · exact End7.undo _ _
  | swap hst hr hw =>
    unfold fwd4D
    split
    · intro _ h
      cases h
    · exact End7.undo _ _
  | free hst hr hf =>
    intro h _
    have a1 := hD.s5 hst
    unfold freeD at h ⊢
    have h : (if D.refs.length = 1 then (if D.pages.length = 0 then (7 : Int) else 6) else 5) = 7 := h
    split at h
    · split at h
      · rename_i h1 h2
        exact ⟨List.eq_nil_of_length_eq_zero (by show D.refs.dropLast.length = 0; simp; omega), List.eq_nil_of_length_eq_zero h2⟩
      · cases h
    · cases h
  | give hst hp hg =>
    intro h _
    obtain ⟨a1, a2⟩ := hD.s6 hst
    unfold giveD at h ⊢
    have h : (if D.pages.length = 1 then (7 : Int) else 6) = 7 := h
    split at h
    · rename_i h1
      exact ⟨a1, List.eq_nil_of_length_eq_zero (by show D.pages.dropLast.length = 0; simp; omega)⟩
    · cases h
/-- Too late. -/
structure Late (ss0 : List Sl) (ps0 : List Pg) (h g : Int) (D : Dt) (x : St) : Prop where
  t : Tw ss0 ps0 D x
  e : End7 D
  n : NotFirst D
  d : DOk D
  x : X0 x h g
  no : D.done = false
theorem Late.steps {ss0 : List Sl} {ps0 : List Pg} {h g : Int} (hne : ¬ (h = 1 ∧ g = 1)) {n : Int} {J : Jd} {z : Nat} {D D' : Dt} {x x' : St} (hs : Steps n J z D x D' x') : Late ss0 ps0 h g D x → Late ss0 ps0 h g D' x' := by
  induction hs with
  | none D x => exact id
  | one hs h7 h1 ih =>
    intro hl
    obtain ⟨t, e, nf, d, x0, no⟩ := ih hl
    obtain ⟨n2, h', g', x2, hc⟩ := first_step d nf x0 h1
    rcases hc with ⟨rfl, rfl, hd⟩ | ⟨e1, e2, _⟩
    · exact ⟨t.step h1, End7.step d h1, n2, d.step h1, x2, hd.trans no⟩
    · exact absurd ⟨e1, e2⟩ hne
theorem Tw.start {D : Dt} {x : St} (hr : D.refs = []) (hp : D.pages = []) : Tw x.ss x.ps D x :=
  ⟨rfl, rfl, fun r h => (by rw [hr] at h; cases h), fun i y y0 h1 h2 _ => (by obtain rfl := Option.some.inj (h1.symm.trans h2); exact ⟨rfl, fun _ => rfl⟩), by rw [hr]; exact List.nodup_nil, fun p h => (by rw [hp] at h; cases h), fun i q q0 h1 h2 _ => (by obtain rfl := Option.some.inj (h1.symm.trans h2); rfl), by rw [hp]; exact List.nodup_nil⟩
theorem live_eq {ss ss0 : List Sl} (hl : ss.length = ss0.length) (h : ∀ (i : Nat) (y y0 : Sl), ss[i]? = some y → ss0[i]? = some y0 → y.used = y0.used ∧ (y.used = true → y.gen = y0.gen)) : ∀ k, liveTo ss k = liveTo ss0 k
  | 0 => rfl
  | k + 1 => by
    have ih := live_eq hl h k
    simp only [liveTo]
    rw [ih]
    congr 1
    cases e : ss[k]? with
    | none =>
      have : ss0[k]? = none := by
        rw [List.getElem?_eq_none_iff] at e ⊢
        omega
      rw [this]
    | some y =>
      have hk := (List.getElem?_eq_some_iff.1 e).1
      obtain ⟨y0, h0⟩ : ∃ y0, ss0[k]? = some y0 := ⟨_, List.getElem?_eq_getElem (by omega)⟩
      rw [h0]
      obtain ⟨h1, h2⟩ := h k y y0 e h0
      cases hu : y.used with
      | false =>
        have h3 : y0.used = false := by rw [← h1, hu]
        simp [hu, h3]
      | true =>
        have h3 : y0.used = true := by rw [← h1, hu]
        simp [hu, h3, h2 hu]
theorem used_eq {ps ps0 : List Pg} (hl : ps.length = ps0.length) (h : ∀ (i : Nat) (q q0 : Pg), ps[i]? = some q → ps0[i]? = some q0 → q.1 = q0.1) (k : Nat) : usedTo ps k = usedTo ps0 k := by
  unfold usedTo
  congr 1
  funext i
  cases e : ps[i]? with
  | none =>
    have : ps0[i]? = none := by
      rw [List.getElem?_eq_none_iff] at e ⊢
      omega
    rw [this]
  | some q =>
    have hk := (List.getElem?_eq_some_iff.1 e).1
    obtain ⟨q0, h0⟩ : ∃ q0, ps0[i]? = some q0 := ⟨_, List.getElem?_eq_getElem (by omega)⟩
    rw [h0]
    simp [h i q q0 e h0]
/-- Nothing stays. -/
theorem Late.nothing {ss0 : List Sl} {ps0 : List Pg} {h g : Int} {D : Dt} {x : St} (hl : Late ss0 ps0 h g D x) (h7 : D.stage = 7) : liveTo x.ss x.ss.length = liveTo ss0 ss0.length ∧ usedTo x.ps x.ps.length = usedTo ps0 ps0.length := by
  obtain ⟨hr, hp⟩ := hl.e h7 hl.no
  refine ⟨?_, ?_⟩
  · rw [live_eq hl.t.ls (fun i y y0 h1 h2 => hl.t.sB i y y0 h1 h2 (fun r hr2 => by rw [hr] at hr2; cases hr2)), hl.t.ls]
  · rw [used_eq hl.t.lp (fun i q q0 h1 h2 => hl.t.pB i q q0 h1 h2 (by rw [hp]; exact fun e => by cases e)), hl.t.lp]
end Go.Proofs.Ythcpccddcgbanaa

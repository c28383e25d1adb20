/- errors.is and fault.Is by contracts, at errors that are trees. Written by gen_is1.py. -/
import Derived.Test.YtcfddlfeldidjaaDoorAs1
import Derived.Test.YtcfddlfeldidjaaDoorIs
namespace Go.Proofs.YtcfddlfeldidjaaDoor
open Go.RowKit Go.Extern.Stop Go.Stop Go.Extern
set_option maxRecDepth 100000
set_option linter.unusedVariables false

theorem noIsF (v : Value) (xT : TypeId) (w : World) : (Instr.typeAssert (.iface 50 v) xT 88 true).run Tryd.prog w = .ok (.tuple #[.nilIface, .bool false]) w := run_typeAssert_lacksB Tryd.underlying88 (by kernel_rfl) (by kernel_rfl) v xT w
theorem noIsJ (v : Value) (xT : TypeId) (w : World) : (Instr.typeAssert (.iface 58 v) xT 88 true).run Tryd.prog w = .ok (.tuple #[.nilIface, .bool false]) w := run_typeAssert_lacksB Tryd.underlying88 (by kernel_rfl) (by kernel_rfl) v xT w
set_option maxHeartbeats 4000000 in
theorem isT (c : Int) (n : Nat) : ∀ (E : Er) (v : Value) (w : World), E.depth < n → ErAt w E v →
    Calls Tryd.prog 30 #[v, errV c, .bool true] w fun e w' => e = .returned (.bool (E.has c)) ∧ w = w' := by
  induction n with
  | zero => intro E v w hd; omega
  | succ n ih =>
    intro E v w hd hE
    obtain ⟨i, hi, hcmp⟩ := Option.map_eq_some_iff.1 isComp
    have IH := hid_ ih
    have HE0 := hid_ hE
    have HI := hid_ (And.intro hi hcmp)
    clear ih hE hi hcmp
    have x1 := noIsE
    have x2 := noIsF
    have x3 := noIsJ
    have x4 := unC
    have x5 := unF
    have x6 := unJ
    have x7 := usC
    have x8 := usJ
    have x9 := meUF
    have x10 := meUJ
    have y1 := fun (u v : Value) (w : World) => run_eql_iface_types (P := Tryd.prog) 50 22 u v Tryd.underlying31 (by decide) w
    have y2 := fun (u v : Value) (w : World) => run_eql_iface_types (P := Tryd.prog) 58 22 u v Tryd.underlying31 (by decide) w
    go_enter Tryd.func30, Tryd.ntmps30
    go_wp2_with fail
    go_loopg [0] (E.depth + 1) (fun k v wr => ∃ E', E'.depth < k ∧ E'.depth ≤ E.depth ∧ E'.has c = E.has c ∧ ErAt wr E' v ∧ wr = w)
    case atStart => exact ⟨E, by omega, by omega, rfl, HE0.out, rfl⟩
    case round =>
      obtain ⟨E', hk, hd', hrel, hE, hwr⟩ := hrel
      have HR := hid_ hrel
      have HW := hid_ hwr
      clear hrel hwr HE0
      match E', hk, hd', HR, hE with
      | .code k, hk, hd', HR, hE =>
        obtain rfl := hE
        have heq := fun w => run_eql_iface_int (P := Tryd.prog) w k c Tryd.underlying31 Tryd.underlying22 HI.out.1 HI.out.2
        by_cases hkc : k = c
        · subst hkc
          have hb : (k == k) = true := by simp
          simp only [hb] at heq
          clear hb
          go_wp2_with fail
          go_ret
          exact ⟨by rw [← HR.out]; simp [Er.has], HW.out.symm⟩
        · have hb : (k == c) = false := by simpa using hkc
          simp only [hb] at heq
          have HB := hid_ hb
          clear hb hkc
          go_wp2_with fail
          go_ret
          exact ⟨by rw [← HR.out]; simp [Er.has, HB.out], HW.out.symm⟩
      | .at_ p s e, hk, hd', HR, hE =>
        obtain ⟨b, ve, rfl, hb, he⟩ := hE
        obtain ⟨et, ex, rfl⟩ := he.iface
        have HB := hid_ hb
        have HE := hid_ he
        have hde : e.depth + 1 = (Er.at_ p s e).depth := rfl
        clear hb he
        go_wp2_with fail
        refine (unwrapF b _ HB.out).mono ?_
        rintro ev w1 ⟨rfl, rfl⟩
        go_wp2_with fail
        go_roundg (gk - 1)
        case rel => exact ⟨e, by omega, by omega, HR.out, HE.out, HW.out⟩
        case measure => omega
      | .join x y, hk, hd', HR, hE =>
        obtain ⟨b, g, cc, vx, vy, rfl, hb, hg, hx, hy⟩ := hE
        obtain ⟨et, ex, rfl⟩ := hx.iface
        obtain ⟨et', ex', rfl⟩ := hy.iface
        have HB := hid_ hb
        have HX := hid_ hx
        have HY := hid_ hy
        have HG := hid_ hg
        have hdx : x.depth < n ∧ y.depth < n := by
          have : (Er.join x y).depth = max x.depth y.depth + 1 := rfl
          omega
        clear hb hg hx hy
        go_wp2_with fail
        refine (unwrapJ b _ HB.out).mono ?_
        rintro ev w1 ⟨rfl, rfl⟩
        obtain ⟨wx, hwx⟩ : ∃ wx : World, wx = wr := ⟨_, rfl⟩
        rw [← hwx] at HW HX HY HG ⊢
        clear hwx HB
        go_wp2_with fail
        go_loopw [45] (fun i w2 => ∃ j : Nat, j ≤ 2 ∧ i = .int .i64 j ∧ (1 ≤ j → x.has c = false) ∧ (2 ≤ j → y.has c = false) ∧ w2 = wx) (fun i _ => 2 - (intOf i).toNat)
        case atStart => exact ⟨0, by omega, rfl, fun h => by omega, fun h => by omega, rfl⟩
        case round =>
          obtain ⟨j, hj, rfl, hj1, hj2, rfl⟩ := hrel
          have HJ := hid_ (And.intro hj1 hj2)
          clear hj1 hj2
          match j, hj, HJ with
          | 0, hj, HJ =>
            have i0 : wr.cell? ⟨g, 0, none⟩ = some (.iface et ex) := HG.out.cell' rfl
            go_wp2_with fail
            refine (IH.out x _ _ hdx.1 HX.out).mono ?_
            rintro ev w1 ⟨rfl, rfl⟩
            cases hb : x.has c with
            | true =>
              have HB := hid_ hb
              clear hb
              go_wp2_with fail
              go_ret
              exact ⟨by rw [← HR.out]; simp [Er.has, HB.out], HW.out.symm⟩
            | false =>
              have HB := hid_ hb
              clear hb
              go_wp2_with fail
              go_roundw
              case rel => exact ⟨1, by omega, rfl, fun _ => HB.out, fun h => by omega, by first | rfl | trivial⟩
              case measure => simp [intOf]
          | 1, hj, HJ =>
            have i0 : wr.cell? ⟨g, 1, none⟩ = some (.iface et' ex') := HG.out.cell' rfl
            go_wp2_with fail
            refine (IH.out y _ _ hdx.2 HY.out).mono ?_
            rintro ev w1 ⟨rfl, rfl⟩
            cases hb : y.has c with
            | true =>
              have HB := hid_ hb
              clear hb
              go_wp2_with fail
              go_ret
              exact ⟨by rw [← HR.out]; simp [Er.has, HB.out], HW.out.symm⟩
            | false =>
              have HB := hid_ hb
              clear hb
              go_wp2_with fail
              go_roundw
              case rel => exact ⟨2, by omega, rfl, fun _ => HJ.out.1 (by omega), fun _ => HB.out, by first | rfl | trivial⟩
              case measure => simp [intOf]
          | 2, hj, HJ =>
            go_wp2_with fail
            go_ret
            exact ⟨by rw [← HR.out]; simp [Er.has, HJ.out.1 (by omega), HJ.out.2 (by omega)], HW.out.symm⟩
          | j + 3, hj, HJ => omega
set_option maxHeartbeats 4000000 in
theorem isTop (c : Int) (E : Er) (v : Value) (w : World) (hE : ErAt w E v) : Calls Tryd.prog 24 #[v, errV c] w fun e w' => e = .returned (.bool (E.has c)) ∧ w = w' := by
  have h8 := @run_callFunc_extern Tryd.prog 29 _ Extern.ReflectliteType.typeOf Tryd.func29 (by kernel_rfl) (by kernel_rfl) (by kernel_rfl) (by kernel_rfl)
  have h32 := @run_callFunc_extern Tryd.prog 59 _ cmpEntry Tryd.func59 (by kernel_rfl) (by kernel_rfl) (by kernel_rfl) (by kernel_rfl)
  have tT := isTypeOf
  have cT := isComparable
  have mR := isMethodComparable
  have HE := hid_ hE
  obtain ⟨et, ex, rfl⟩ := hE.iface
  clear hE
  go_enter Tryd.func24, Tryd.ntmps24
  go_wp2_with fail
  refine (isT c (E.depth + 1) E _ _ (by omega) HE.out).mono ?_
  rintro ev w1 ⟨rfl, rfl⟩
  go_wp2_with fail
  go_ret
  exact ⟨rfl, rfl⟩
set_option maxHeartbeats 4000000 in
theorem isE (c : Int) (E : Er) (v : Value) (w : World) (hE : ErAt w E v) : Calls Tryd.prog 19 #[v, .int .i64 c] w fun e w' => e = .returned (.bool (E.has c)) ∧ w = w' := by
  have HE := hid_ hE
  clear hE
  go_enter Tryd.func19, Tryd.ntmps19
  go_wp2_with fail
  refine (isTop c E _ _ HE.out).mono ?_
  rintro ev w1 ⟨rfl, rfl⟩
  go_wp2_with fail
  go_ret
  exact ⟨rfl, rfl⟩
end Go.Proofs.YtcfddlfeldidjaaDoor

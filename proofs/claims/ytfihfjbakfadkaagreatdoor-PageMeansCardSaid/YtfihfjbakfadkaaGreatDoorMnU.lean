/- Texts of one proof, merged: PMeans10. -/
import Derived.Test.YtfihfjbakfadkaaGreatDoorMnR
import Derived.Test.YtfihfjbakfadkaaGreatDoorMnT
namespace Go.Proofs.YtfihfjbakfadkaaGreatDoor
open Go.RowKit Go.BigFrame
set_option maxRecDepth 100000
set_option linter.unusedVariables false

theorem own_beside10 {w w' : World} {b1 s1 n1 b2 s2 n2 : Nat} {e1 e2 : TypeId} {v1 v2 : Value} {xs1 xs2 : List Value} (h : w.ownsRow b1 e1 s1 v1 n1 xs1) (h2 : w.ownsRow b2 e2 s2 v2 n2 xs2) (ne : e1 ≠ e2) (hg : w.grownBy w' v2.ownBlock) : w'.ownsRow b1 e1 s1 v1 n1 xs1 :=
  own_fr h (Fr.grown (S := fun b => v2.ownBlock = some b) (Fr.refl _ _) hg (fun k hk => .inl hk)) (fun i hi e => own_own_ne h h2 ne i hi e)
theorem ChOwB.besideR {b0 : Nat} {w w' : World} {C : Ch} (h : ChOwB b0 w C) {base n : Nat} {v : Value} {xs : List Value} (ho : w.ownsRow base 23 2 v n xs) (hg : w.grownBy w' v.ownBlock) : ChOwB b0 w' C :=
  ⟨⟨own_beside10 h.own.r ho (by decide) hg, own_beside10 h.own.e ho (by decide) hg⟩, h.low, h.high, h.key, h.hkey, h.ents⟩
/-- The refs that the law makes up. -/
def refK (k : Nat) : List (Int × Int) := (List.range k).map fun (i : Nat) => ((i : Int) + 1, (1 : Int))
theorem refK_len (k : Nat) : (refK k).length = k := by simp [refK]
theorem refK_succ (k : Nat) : rpFlat (refK (k + 1)) = rpFlat (refK k) ++ [.int .i64 ((k : Int) + 1), .int .i64 1] := by
  unfold refK
  rw [List.range_succ, List.map_append]
  simp [rpFlat]
/-- A leaf page has no entries, an inner one no rows. -/
theorem of_leaf_iv {l : List Rc} {lv : Lw} {iv : Vw} (h : ofM l = some (true, lv, iv)) : iv = Vw.zero := by
  unfold ofM at h
  split at h
  · rw [Option.map_eq_some_iff] at h
    obtain ⟨v, _, e⟩ := h
    simp only [Prod.mk.injEq] at e
    exact e.2.2.symm
  · rw [Option.map_eq_some_iff] at h
    obtain ⟨v, _, e⟩ := h
    simp at e
theorem of_inner_lv {l : List Rc} {lv : Lw} {iv : Vw} (h : ofM l = some (false, lv, iv)) : lv = Lw.zero ∧ Sound iv := by
  unfold ofM at h
  split at h
  · rw [Option.map_eq_some_iff] at h
    obtain ⟨v, _, e⟩ := h
    simp at e
  · rw [Option.map_eq_some_iff] at h
    obtain ⟨v, hv, e⟩ := h
    simp only [Prod.mk.injEq] at e
    refine ⟨e.2.1.symm, ?_⟩
    rw [← e.2.2]
    exact (fold_good hv).s
theorem child_has {V : Vw} {key : ByteArray} (h : Sound V) : (∃ p, rchildM V key = some p) ↔ inS V.low V.high V.unb key = true := by
  rw [rchild_rising h.ris]
  constructor
  · rintro ⟨p, hp⟩
    cases e : inS V.low V.high V.unb key with
    | true => rfl
    | false => rw [childM_out e] at hp; cases hp
  · intro hi
    obtain ⟨i, p, _, hp⟩ := h.child hi
    exact ⟨p, hp⟩
theorem Laid.keep0 {w w' : World} (h : Laid w) (hf : Fr none_ w w') : Laid w' := h.fr hf id
theorem eql_bool10 (b : Bool) (w : World) : (binOp .eql 4 (.bool b) (.bool b)).run Tryz.prog w = .ok (.bool true) w := by cases b <;> kernel_rfl
theorem eql_boolG (x y : Operand) {a b : Bool} (w : World) (e : a = b) (h : (eqGuard .eql 4 x y (.bool a) (.bool b)).run Tryz.prog w = .ok () w) : (do eqGuard .eql 4 x y (.bool a) (.bool b); binOp .eql 4 (.bool a) (.bool b)).run Tryz.prog w = .ok (.bool true) w := by
  subst e
  simp only [Sem.run_bind, Result.andThen_ok, h, eql_bool10]
theorem rvw_size10 : (Tryz.prog.info? 46).map (·.size) = some 9 := by kernel_rfl
theorem rlw_size10 : (Tryz.prog.info? 45).map (·.size) = some 6 := by kernel_rfl
theorem eql_str10 (s : ByteArray) (w : World) : (binOp .eql 9 (.string s) (.string s)).run Tryz.prog w = .ok (.bool true) w := by
  simp [binOp, Op.stringOp]
theorem eql_strG (x y : Operand) {a b : ByteArray} (w : World) (e : a = b) (h : (eqGuard .eql 9 x y (.string a) (.string b)).run Tryz.prog w = .ok () w) : (do eqGuard .eql 9 x y (.string a) (.string b); binOp .eql 9 (.string a) (.string b)).run Tryz.prog w = .ok (.bool true) w := by
  subst e
  simp only [Sem.run_bind, Result.andThen_ok, h, eql_str10]
theorem row_ref_info : (Tryz.prog.info? 23).map (fun i => (i.zero, i.size, i.bytes)) = some (some (.agg #[.int .i64 0, .int .i64 0]), 2, 16) := by kernel_rfl
theorem Blk.range0 {w : World} {g : Nat} {t : TypeId} {cs : Array Value} (h : Blk w g t cs) : w.rangeAt g 0 cs.toList := fun j v hv => by
  rw [Nat.zero_add]
  exact h.cell' (by simpa using hv)
set_option maxHeartbeats 16000000 in
theorem pmeans10_law (n1 hs hg : Int) (A : Option Addr) (n cap : Nat) (L : List Ch) (key : ByteArray) (w : World) (h : InReads w A n L) (hw : RwIn L) (hcp : RwCap L) (hm : n ≤ maxLen) (hk : SzOk key) (hL : Laid w) :
    Calls Tryz.prog 3 #[.int .i64 n1, .agg #[.int .i64 hs, .int .i64 hg], .slice A n cap, .string key] w (RetQ (.bool true) w) := by
  obtain ⟨w0, hw0⟩ : ∃ z, z = w.alloc (.cells #[.int .i64 hs, .int .i64 hg] 23) := ⟨_, rfl⟩
  have f0 : Fr none_ w w0 := by rw [hw0]; exact (Fr.refl none_ w).alloc _
  have BB : Hid (Blk w0 w.heap.size 23 #[.int .i64 hs, .int .i64 hg]) := hid_ (by rw [hw0]; exact Blk.new w _ _)
  have F0 := hid_ f0
  have H := hid_ (h.keep f0)
  have HL := hid_ (hL.keep0 f0)
  have HW := hid_ hw
  have HCP := hid_ hcp
  have HM := hid_ hm
  have HK := hid_ hk
  have hln := h.1
  obtain ⟨i0, hi0, hz0, hs0, hb0⟩ := info_parts record_info
  have Hi := hid_ (And.intro hi0 (And.intro hz0 (And.intro hs0 hb0)))
  obtain ⟨j0, hj0, hy0, ht0, hc0⟩ := info_parts row_ref_info
  have Hj := hid_ (And.intro hj0 (And.intro hy0 (And.intro ht0 hc0)))
  clear hi0 hz0 hs0 hb0 hj0 hy0 ht0 hc0 h hw hcp hm hk hL f0
  go_enter Tryz.func3, Tryz.ntmps3
  go_upto_region 1 with fail
  change Code.wp _ _ _ _ (w.alloc (.cells #[.int .i64 hs, .int .i64 hg] 23))
  rw [← hw0]
  clear hw0
  obtain ⟨gB, hgB⟩ : ∃ g, g = w.heap.size := ⟨_, rfl⟩
  rw [← hgB] at BB
  rw [← hgB]
  clear hgB
  go_wp2_with fail
  refine (few10_ok A n cap L w0 H.out HW.out HM.out).mono ?_
  rintro e w1 ⟨b, rfl, hb, hf⟩
  have G0 := hid_ hb
  have F1 := hid_ (F0.out.then_none hf)
  replace BB := hid_ (BB.out.fr hf id)
  replace H := hid_ (H.out.keep hf)
  replace HL := hid_ (HL.out.keep0 hf)
  clear hb hf F0
  cases b with
  | false =>
    go_wp2_with fail
    refine (awake10_ok w1).mono ?_
    rintro e w2 ⟨rfl, hf⟩
    go_wp2_with fail
    go_ret
    exact ⟨rfl, F1.out.then_none hf⟩
  | true =>
  have hsz : (key.size : Int) = (key.size : Int) := rfl
  by_cases hk2 : ¬ key.size ≤ 100
  · have d0 : decide (100 < (key.size : Int)) = true := decide_eq_true (by omega)
    clear hk2
    go_wp2_with fail
    refine (awake10_ok w1).mono ?_
    rintro e w2 ⟨rfl, hf⟩
    go_wp2_with fail
    go_ret
    exact ⟨rfl, F1.out.then_none hf⟩
  have d0 : decide (100 < (key.size : Int)) = false := decide_eq_false (by omega)
  clear hk2
  have HF := hid_ (G0.out rfl)
  have hn40 : n ≤ 40 := (G0.out rfl).2.2
  have HCR := hid_ (H.out.few (few_ents HF.out.2.1))
  have HRW := hid_ (few_rows HF.out.1 HW.out)
  have HEN := hid_ (few_ents HF.out.2.1)
  clear G0
  go_wp2_with fail
  go_loopw [9, 10, 34] (fun v r i wr => ∃ (k : Nat) (Cs : List Ch), k ≤ n ∧ i = .int .i64 k ∧ Cs.length = k ∧ Cs.map (·.R) = (L.take k).map (·.R) ∧ wr.ownsRow w1.heap.size 33 15 v k (recFlat Cs) ∧ (∀ C ∈ Cs, ChOwB w1.heap.size wr C) ∧ wr.ownsRow w1.heap.size 23 2 r k (rpFlat (refK k)) ∧ Fr none_ w1 wr) (fun _ _ i _ => n - (intOf i).toNat)
  case atStart => exact ⟨0, [], Nat.zero_le _, rfl, rfl, rfl, World.ownsRow_nil _ _ _ _, fun C hC => by simp at hC, World.ownsRow_nil _ _ _ _, Fr.refl _ _⟩
  case round =>
    obtain ⟨k, Cs, hk, rfl, hcl, hcm, hown, hcs, href, hF⟩ := hrel
    obtain ⟨oA, oc, rfl⟩ := hown.shape
    obtain ⟨rA, rc, rfl⟩ := href.shape
    have HCL := hid_ hcl
    have HCM := hid_ hcm
    have O := hid_ hown
    have RF := hid_ href
    have HCS := hid_ hcs
    have F := hid_ hF
    clear hcl hcm hown hcs hF href
    have hi0 : (0 : Int) ≤ (k : Int) := Int.natCast_nonneg _
    by_cases hlt : k < n
    · obtain ⟨C, hC⟩ : ∃ C, L[k]? = some C := ⟨_, List.getElem?_eq_getElem (by omega)⟩
      obtain ⟨b, off, rfl, hb, hR, hO⟩ := (HCR.out.keep F.out).at_ hC
      have hi1 : (k : Int) < (n : Int) := by omega
      have HR := hid_ hR
      have HO := hid_ hO
      have HC := hid_ hC
      have hrow := (HRW.out C (List.mem_of_getElem? hC)).2.2
      have hent := hO.ents.1
      clear hR hO hC
      go_upto_region 8 with (first | (refine wpList_load_mid rfl 33 (.tmp 37) rfl b (off + k * 15) rfl (recL C) _ HR.out Tryz.underlying33 rfl rec_size8 ?_) | (refine wpList_store_mid rfl 33 (.tmp 12) (.tmp 38) rfl wr.heap.size 0 (recL C).toArray rfl rfl (new_there wr _ recZ8) rec_size8 (rec_one C) ?_; obtain ⟨wa, hwa⟩ : ∃ wa, wa = (wr.alloc (.cells recZ8 33)).setCells wr.heap.size 0 (recL C) := ⟨_, rfl⟩; change wpList _ _ _ _ _ ((wr.alloc (.cells recZ8 33)).setCells wr.heap.size 0 (recL C)); rw [← hwa]; have P1 : Hid (Blk wa wr.heap.size 33 (recL C).toArray ∧ Fr none_ wr wa) := hid_ (by rw [hwa]; exact new_copy wr _ recZ8 _ rfl); clear hwa))
      have hf1 := P1.out.2.size
      go_wp2_with (refine wpList_load_mid rfl 33 (.tmp 12) rfl wr.heap.size 0 rfl (recL C) _ (Blk.range0 (cs := (recL C).toArray) P1.out.1) Tryz.underlying33 rfl rec_size8 ?_)
      refine (clone_big C.R C.A C.c C.B C.d _ (HO.out.rd.keep P1.out.2) (by omega) hent).mono ?_
      rintro e w2 ⟨A1, c1, B1, d1, rfl, hro, hf2⟩
      have RO := hid_ (hro.base (show w1.heap.size ≤ wa.heap.size by have := F.out.size; have := P1.out.2.size; omega))
      have F2 := hid_ (P1.out.2.then_none hf2)
      have hs2 := (F.out.then_none F2.out).size
      have O2 := hid_ (own_none O.out F2.out)
      have R2 := hid_ (own_none RF.out F2.out)
      clear hro hf2
      obtain ⟨C', hC'⟩ : ∃ C' : Ch, C' = ⟨C.R, A1, c1, B1, d1⟩ := ⟨_, rfl⟩
      have HC' := hid_ hC'
      clear hC'
      go_upto_region 9 with (at_builtin; refine wpList_append_any _ rfl (.tmp 39) (.tmp 42) 24 rfl w1.heap.size 33 i0 _ 15 192 Tryz.underlying24 Hi.out.1 Hi.out.2.1 Hi.out.2.2.1 Hi.out.2.2.2 rfl (by omega) (.slice oA k oc) k (recFlat Cs) rfl (O2.out.alloc _) (some ⟨w2.heap.size, 0, none⟩) 1 1 (recL ⟨C.R, A1, c1, B1, d1⟩) rfl (reads_new w2 _ (recL ⟨C.R, A1, c1, B1, d1⟩) _ rfl) (by simp [Value.oneCell']) (by simp only [maxLen]; omega) (by omega) (by simp; omega) ?_; intro A3 c3 w3 hown3 hgr3)
      have R3 := hid_ (own_beside10 (R2.out.alloc (.cells (recL ⟨C.R, A1, c1, B1, d1⟩).toArray 33)) (O2.out.alloc (.cells (recL ⟨C.R, A1, c1, B1, d1⟩).toArray 33)) (by decide) hgr3)
      have F3 : Hid (Fr none_ w1 w3) := hid_ (((F.out.then_none F2.out).alloc _).grown hgr3 (fun b hb => .inr (O2.out.lt b hb).1))
      have REL : Cs.length + 1 = k + 1 ∧ (Cs ++ [C']).map (·.R) = (L.take (k + 1)).map (·.R) ∧ w3.ownsRow w1.heap.size 33 15 (.slice A3 (k + 1) c3) (k + 1) (recFlat (Cs ++ [C'])) ∧ (∀ X ∈ Cs ++ [C'], ChOwB w1.heap.size w3 X) := by
        have ho2 := O2.out.alloc (.cells (recL ⟨C.R, A1, c1, B1, d1⟩).toArray 33)
        refine ⟨by rw [HCL.out], ?_, ?_, fun X hX => ?_⟩
        · rw [List.take_add_one, HC.out, List.map_append, List.map_append, HCM.out, HC'.out]
          rfl
        · rw [recFlat_app, HC'.out]
          have : recFlat [(⟨C.R, A1, c1, B1, d1⟩ : Ch)] = recL ⟨C.R, A1, c1, B1, d1⟩ := by simp [recFlat]
          rw [this]
          exact hown3
        · rcases List.mem_append.1 hX with hX | hX
          · exact (((HCS.out X hX).keep F2.out).keep ((Fr.refl none_ w2).alloc _)).beside ho2 hgr3
          · obtain rfl : X = C' := by simpa using hX
            refine ChOwB.beside (ChOwB.keep ?_ ((Fr.refl none_ w2).alloc _)) ho2 hgr3
            rw [HC'.out]
            exact ⟨RO.out, HO.out.low, HO.out.high, HO.out.key, HO.out.hkey, HO.out.ents⟩
      have HREL := hid_ REL
      clear REL hown3 hgr3 O2 R2 RO F2 P1 HR HO
      go_wp2_with (at_builtin; refine wpList_append_any _ rfl (.tmp 44) (.tmp 48) 27 rfl w1.heap.size 23 j0 _ 2 16 Tryz.underlying27 Hj.out.1 Hj.out.2.1 Hj.out.2.2.1 Hj.out.2.2.2 rfl (by omega) (.slice rA k rc) k (rpFlat (refK k)) rfl (R3.out.alloc _) (some ⟨w3.heap.size, 0, none⟩) 1 1 [.int .i64 ((k : Int) + 1), .int .i64 1] rfl (reads_new w3 _ [.int .i64 ((k : Int) + 1), .int .i64 1] _ rfl) (by simp [Value.oneCell']) (by simp only [maxLen]; omega) (by omega) (by have h9 := F3.out.size; simp; omega) ?_; intro A4 c4 w4 hown4 hgr4)
      have RL4 : Hid (w4.ownsRow w1.heap.size 33 15 (.slice A3 (k + 1) c3) (k + 1) (recFlat (Cs ++ [C'])) ∧ (∀ X ∈ Cs ++ [C'], ChOwB w1.heap.size w4 X) ∧ w4.ownsRow w1.heap.size 23 2 (.slice A4 (k + 1) c4) (k + 1) (rpFlat (refK (k + 1))) ∧ Fr none_ w1 w4) := hid_ (by
        have ho := R3.out.alloc (.cells #[.int .i64 ((k : Int) + 1), .int .i64 1] 23)
        have fa := (Fr.refl none_ w3).alloc (.cells #[.int .i64 ((k : Int) + 1), .int .i64 1] 23)
        refine ⟨own_beside10 (own_none HREL.out.2.2.1 fa) ho (by decide) hgr4, fun X hX => ((HREL.out.2.2.2 X hX).keep fa).besideR ho hgr4, ?_, (F3.out.then_none fa).grown hgr4 (fun b hb => .inr (R3.out.lt b hb).1)⟩
        rw [refK_succ]
        exact hown4)
      clear hown4 hgr4
      go_wp2
      go_roundw
      case rel => exact ⟨k + 1, Cs ++ [C'], by omega, by go_num, by rw [List.length_append]; exact HREL.out.1, HREL.out.2.1, RL4.out.1, RL4.out.2.1, RL4.out.2.2.1, RL4.out.2.2.2⟩
      case measure => simp [intOf]; omega
    · obtain rfl : k = n := by omega
      have hcm := HCM.out
      rw [List.take_of_length_le (by omega)] at hcm
      have HCM' := hid_ hcm
      have hlc := HCL.out
      clear hcm
      have HCO : Hid (ChReads wr oA k Cs) := hid_ (chReads_own O.out hlc (fun C hC => (HCS.out C hC).own0.ok))
      have HRC : Hid (RwOkL Cs) := hid_ (fun C hC => by
        have hR : C.R ∈ L.map (·.R) := by rw [← HCM'.out]; exact List.mem_map.2 ⟨C, hC, rfl⟩
        obtain ⟨E, hE, e⟩ := List.mem_map.1 hR
        have e' : E.R = C.R := e
        rw [← e']
        exact HRW.out E hE)
      have HEC : Hid (∀ C ∈ Cs, C.R.ents.length ≤ 500) := hid_ (fun C hC => by
        have hR : C.R ∈ L.map (·.R) := by rw [← HCM'.out]; exact List.mem_map.2 ⟨C, hC, rfl⟩
        obtain ⟨E, hE, e⟩ := List.mem_map.1 hR
        have e' : E.R = C.R := e
        rw [← e']
        have := HEN.out E hE
        omega)
      obtain ⟨rk, hrk⟩ : ∃ rk, rk = refK k := ⟨_, rfl⟩
      have hrl : rk.length = k := by rw [hrk]; exact refK_len k
      have RR : Hid (Reads wr 2 rA rk.length (rpFlat rk)) := hid_ (by rw [hrl, hrk]; exact Reads.of_own RF.out)
      have HRL := hid_ hrl
      have HLI := hid_ (H.out.keep F.out)
      replace BB := hid_ (BB.out.fr F.out id)
      replace HL := hid_ (HL.out.keep0 F.out)
      have HCW := hid_ (HCR.out.keep F.out)
      replace F := hid_ (F1.out.then_none F.out)
      clear HCM HCL hrk RF hk hlt
      have b0 : wr.cell? ⟨gB, 0, none⟩ = some (.int .i64 hs) := BB.out.cell' rfl
      have b1 : wr.cell? ⟨gB, 1, none⟩ = some (.int .i64 hg) := BB.out.cell' rfl
      go_wp2_with fail
      have HO1 : Hid (Calls Tryz.prog 9 #[.int .i64 n1, .agg #[.int .i64 hs, .int .i64 hg], .slice oA k oc, .slice rA k rc] wr (OfPostO n1 hs hg (Cs.map (·.R)) rk wr)) := hid_ (by
        have := of_okO n1 hs hg oA k oc Cs rk rA rc wr HCO.out (by omega) HRC.out HEC.out RR.out (by rw [HRL.out]; omega)
        rwa [HRL.out] at this)
      refine HO1.out.mono ?_
      intro e w5 hpost
      rw [HCM'.out] at hpost
      obtain ⟨qv, ev, kq, rfl, hqs, hqo, hq, hf5⟩ := pgQ_of hpost
      have PQ := hid_ hq
      have F5 := hid_ hf5
      clear hpost hq hf5 b0 b1 HO1
      go_upto_region 12 with (refine wpList_store_mid rfl 40 (.tmp 13) (.tmp 57) rfl w5.heap.size 0 qv rfl rfl (by rw [hqs]; exact new_there w5 _ pgZ) (by rw [hqs]; exact page_size) hqo ?_; obtain ⟨w6, hw_⟩ : ∃ z, z = (w5.alloc (.cells pgZ 40)).setCells w5.heap.size 0 qv.toList := ⟨_, rfl⟩; change wpList _ _ _ _ _ ((w5.alloc (.cells pgZ 40)).setCells w5.heap.size 0 qv.toList); rw [← hw_]; have Q_w6 : Hid (Blk w6 w5.heap.size 40 qv ∧ Fr none_ w5 w6) := hid_ (by rw [hw_]; have h9 := new_copy w5 40 pgZ qv.toList (by rw [Array.length_toList, hqs]; rfl); simpa using h9); clear hw_)
      have F6 := hid_ (F5.out.then_none Q_w6.out.2)
      have BB6 := hid_ (BB.out.fr F6.out id)
      have b0 : w6.cell? ⟨gB, 0, none⟩ = some (.int .i64 hs) := BB6.out.cell' rfl
      have b1 : w6.cell? ⟨gB, 1, none⟩ = some (.int .i64 hg) := BB6.out.cell' rfl
      go_wp2_with fail
      refine (rof_okB n1 hs hg A k cap L rA k rc w6 (HCW.out.keep F6.out) (by omega) HRW.out HCP.out (fun C hC => by have := HEN.out C hC; omega)).mono ?_
      intro e w7 hpost
      obtain ⟨wv, kw, rfl, hws, hwo, hwq, hf7⟩ := pgW_of hpost
      have PW := hid_ hwq
      have F7 := hid_ hf7
      clear hpost hwq hf7 b0 b1 BB BB6
      go_upto_region 13 with (refine wpList_store_mid rfl 48 (.tmp 15) (.tmp 65) rfl w7.heap.size 0 wv rfl rfl (by rw [hws]; exact new_there w7 _ pgZ) (by rw [hws]; exact rpage_size) hwo ?_; obtain ⟨w8, hw_⟩ : ∃ z, z = (w7.alloc (.cells pgZ 48)).setCells w7.heap.size 0 wv.toList := ⟨_, rfl⟩; change wpList _ _ _ _ _ ((w7.alloc (.cells pgZ 48)).setCells w7.heap.size 0 wv.toList); rw [← hw_]; have Q_w8 : Hid (Blk w8 w7.heap.size 48 wv ∧ Fr none_ w7 w8) := hid_ (by rw [hw_]; have h9 := new_copy w7 48 pgZ wv.toList (by rw [Array.length_toList, hws]; rfl); simpa using h9); clear hw_)
      have FB : Hid (Fr none_ w5 w8 ∧ Fr none_ w7 w8 ∧ Fr none_ wr w8) := hid_ ⟨(Q_w6.out.2.then_none F7.out).then_none Q_w8.out.2, Q_w8.out.2, (F6.out.then_none F7.out).then_none Q_w8.out.2⟩
      have F8 : Hid (Fr none_ w w8) := hid_ (F.out.then_none FB.out.2.2)
      have HL8 := hid_ (HL.out.keep0 FB.out.2.2)
      have hcode := pg_code PQ.out PW.out
      obtain rfl : kq = kw := hcode.1
      have HCD := hid_ hcode.2
      clear hcode
      obtain ⟨gP, hgP⟩ : ∃ g, g = w5.heap.size := ⟨_, rfl⟩
      obtain ⟨gQ, hgQ⟩ : ∃ g, g = w7.heap.size := ⟨_, rfl⟩
      have BP : Hid (Blk w8 gP 40 qv) := hid_ (by rw [hgP]; exact (Q_w6.out.1.fr F7.out id).fr Q_w8.out.2 id)
      have BQ : Hid (Blk w8 gQ 48 wv) := hid_ (by rw [hgQ]; exact Q_w8.out.1)
      rw [← hgP, ← hgQ]
      clear hgP hgQ F F5 F6 F7 Q_w6 Q_w8
      have SM : Hid (Calls Tryz.prog 11 #[.agg qv, .agg wv] w8 fun e w2 => e = .returned (.bool true) ∧ Fr none_ w8 w2) := hid_ (by
        have hq := PQ.out
        have hwq := PW.out
        have hl2 := HRL.out
        have hrl2 : Reads w8 2 rA rk.length (rpFlat rk) := RR.out.none_fr FB.out.2.2
        have hww : PgW n1 hs hg (L.map (·.R)) A k cap rA rk.length rc w7 wv kq := by rw [hl2]; exact hwq
        exact pg_same hq hww FB.out.1 FB.out.2.1 (HCW.out.keep FB.out.2.2) hrl2 (by omega) hln (by omega) (fun C hC => ⟨by have := (HRW.out C hC).2.2; omega, by have := HEN.out C hC; omega⟩))
      go_wp2_with (first | (refine wpList_load_mid rfl 40 (.tmp 13) rfl gP 0 rfl qv.toList _ (Blk.range0 BP.out) Tryz.underlying40 rfl (by rw [Array.length_toList, hqs]; exact page_size) ?_) | (refine wpList_load_mid rfl 48 (.tmp 15) rfl gQ 0 rfl wv.toList _ (Blk.range0 BQ.out) Tryz.underlying48 rfl (by rw [Array.length_toList, hws]; exact rpage_size) ?_))
      try rw [Array.toArray_toList, Array.toArray_toList]
      refine SM.out.mono ?_
      rintro e w9 ⟨rfl, hf9⟩
      replace BP := hid_ (BP.out.fr hf9 id)
      replace BQ := hid_ (BQ.out.fr hf9 id)
      replace HL8 := hid_ (HL8.out.keep0 hf9)
      have F9 := hid_ (F8.out.then_none hf9)
      have FC := hid_ hf9
      clear hf9 SM F8
      rcases HCD.out with hz | hz
      rotate_left
      · obtain ⟨hkq, rfl⟩ := hz
        have e0 : (kq == 0) = false := by simpa using hkq
        have e1 : (kq != kq) = false := by simp
        go_wp2_with fail
        refine (code_hit kq w9 HL8.out).mono ?_
        rintro e w10 ⟨rfl, hf10⟩
        go_wp2_with fail
        refine (awake10_ok w10).mono ?_
        rintro e w11 ⟨rfl, hf11⟩
        go_wp2_with fail
        go_ret
        exact ⟨rfl, (F9.out.then_none hf10).then_none hf11⟩
      obtain ⟨rfl, rfl⟩ := hz
      go_wp2_with fail
      refine (code_nil w9).mono ?_
      rintro e w10 ⟨rfl, hf10⟩
      replace BP := hid_ (BP.out.fr hf10 id)
      replace BQ := hid_ (BQ.out.fr hf10 id)
      replace F9 := hid_ (F9.out.then_none hf10)
      replace FC := hid_ (FC.out.then_none hf10)
      clear hf10
      have HPP : Hid (∃ (leaf : Bool) (lv : Lw) (iv : Vw) (C A1 B A3 B3 : Option Addr) (nc x c d c3 d3 : Nat) (vr : Value), ofM (L.map (·.R)) = some (leaf, lv, iv) ∧ qv = pgA n1 hs hg (.slice C nc x) vr leaf lv (.slice A1 lv.rows.length c) iv (.slice B iv.ents.length d) ∧
          wv = pgA n1 hs hg (.slice A k cap) (.slice rA k rc) leaf lv (.slice A3 lv.rows.length c3) iv (.slice B3 iv.ents.length d3) ∧ lv.Ok ∧ VwIn w10 iv B3 d3) := hid_ (by
        rcases PQ.out with ⟨leaf, lv, iv, A1, c1, B1, d1, C1, x1, D1, y1, b, h1, h2, h3, _, _⟩ | ⟨h1, _⟩
        · rcases PW.out with ⟨leaf2, lv2, iv2, A3, c3, B3, d3, k1, k2, ko, k3, k4, _⟩ | ⟨k1, _⟩
          · rw [h1] at k1
            simp only [Option.some.injEq, Prod.mk.injEq] at k1
            obtain ⟨rfl, rfl, rfl⟩ := k1
            exact ⟨leaf, lv, iv, C1, A1, B1, A3, B3, _, x1, c1, d1, c3, d3, _, h1, h2, k2, ko, (k4.keep FB.out.2.1).keep FC.out⟩
          · exact absurd rfl k1.pos
        · exact absurd rfl h1.pos)
      obtain ⟨leaf, lv, iv, C1, A1, B1, A3, B3, nc, x1, c1, d1, c3, d3, vr, hof, rfl, rfl, hlo, hvi⟩ := HPP.out
      have HOF := hid_ hof
      have HLO := hid_ hlo
      have HVI := hid_ hvi
      clear hof hlo hvi HPP PQ PW hqs hqo hws hwo HCD
      obtain ⟨P, hP⟩ : ∃ P : Pz, P = ⟨n1, hs, hg, C1, nc, x1, vr, leaf, lv, A1, c1, iv, B1, d1⟩ := ⟨_, rfl⟩
      have HPQ : Hid (Blk w10 gP 40 (pzA P) ∧ P.lv = lv ∧ P.iv = iv ∧ P.leaf = leaf) := hid_ (by rw [hP]; exact ⟨BP.out, rfl, rfl, rfl⟩)
      clear hP
      go_wp2_with (refine wpList_load_mid rfl 40 (.tmp 13) rfl gP 0 rfl (pzA P).toList _ (Blk.range0 HPQ.out.1) Tryz.underlying40 rfl page_size ?_)
      refine (bounds_ok P w10).mono ?_
      rintro e w11 ⟨rfl, hf11⟩
      replace HPQ : Hid (Blk w11 gP 40 (pzA P) ∧ P.lv = lv ∧ P.iv = iv ∧ P.leaf = leaf) := hid_ ⟨HPQ.out.1.fr hf11 id, HPQ.out.2⟩
      replace BQ := hid_ (BQ.out.fr hf11 id)
      replace HVI := hid_ (HVI.out.keep hf11)
      replace F9 := hid_ (F9.out.then_none hf11)
      clear hf11 FC
      have r5 : w11.cell? ⟨gQ, 5, none⟩ = some (.bool leaf) := BQ.out.cell' rfl
      cases leaf with
      | true =>
        have HBD : Hid (SzOk P.low ∧ SzOk P.high ∧ P.low = lv.low ∧ P.high = lv.high ∧ P.unb = lv.unb ∧ P.right = lv.right ∧ P.size = lv.rows.length) := hid_ (by
          have e1 := HPQ.out.2.1
          have e2 := HPQ.out.2.2.1
          have e3 := HPQ.out.2.2.2
          have a1 : P.low = lv.low := by unfold Pz.low; rw [e3, e1]; rfl
          have a2 : P.high = lv.high := by unfold Pz.high; rw [e3, e1]; rfl
          have a3 : P.unb = lv.unb := by unfold Pz.unb; rw [e3, e1]; rfl
          have a4 : P.right = lv.right := by unfold Pz.right; rw [e3, e1]; rfl
          refine ⟨by rw [a1]; exact HLO.out.low, by rw [a2]; exact HLO.out.high, a1, a2, a3, a4, ?_⟩
          unfold Pz.size
          rw [e1, e2, of_leaf_iv HOF.out]
          simp [Vw.zero])
        go_upto_region 19 with fail
        (try go_frame)
        clear r5
        go_cut [8] (fun u wq => u = .bool true ∧ Fr none_ w11 wq)
        case first =>
          refine wp_region_q7 (fun w' => Fr none_ w11 w') (by kernel_rfl) (by kernel_rfl) (Fr.refl none_ w11).drew ?_
          refine q_val7 (some 96) (.string P.low) rfl (by kernel_rfl) (fun w' hC => by kernel_rfl) ?_
          refine q_val7 (some 97) (.pointer (some ⟨gQ, 6, none⟩)) rfl (by kernel_rfl) (fun w' hC => by kernel_rfl) ?_
          refine q_val7 (some 98) (.pointer (some ⟨gQ, 6, none⟩)) rfl (by kernel_rfl) (fun w' hC => by kernel_rfl) ?_
          refine q_cell7 (some 99) (.string lv.low) 9 (.tmp 98) ⟨gQ, 6, none⟩ _ rfl (by kernel_rfl) rfl (by kernel_rfl) ((fun w' hC => (BQ.out.fr hC id).cell' rfl)) Tryz.underlying9 rfl ?_
          refine q_op7 (some 100) (.bool true) (do eqGuard .eql 9 (.tmp 96) (.tmp 99) (.string P.low) (.string lv.low); binOp .eql 9 (.string P.low) (.string lv.low)) rfl (by kernel_rfl) (by kernel_rfl) (fun w' hC => eql_strG _ _ w' HBD.out.2.2.1 (by kernel_rfl)) ?_
          refine q_val7 (some 101) (.bool true) rfl (by kernel_rfl) (fun w' hC => by kernel_rfl) ?_
          refine q_val7 (some 102) (.string P.high) rfl (by kernel_rfl) (fun w' hC => by kernel_rfl) ?_
          refine q_val7 (some 103) (.pointer (some ⟨gQ, 6, none⟩)) rfl (by kernel_rfl) (fun w' hC => by kernel_rfl) ?_
          refine q_val7 (some 104) (.pointer (some ⟨gQ, 7, none⟩)) rfl (by kernel_rfl) (fun w' hC => by kernel_rfl) ?_
          refine q_cell7 (some 105) (.string lv.high) 9 (.tmp 104) ⟨gQ, 7, none⟩ _ rfl (by kernel_rfl) rfl (by kernel_rfl) ((fun w' hC => (BQ.out.fr hC id).cell' rfl)) Tryz.underlying9 rfl ?_
          refine q_op7 (some 106) (.bool true) (do eqGuard .eql 9 (.tmp 102) (.tmp 105) (.string P.high) (.string lv.high); binOp .eql 9 (.string P.high) (.string lv.high)) rfl (by kernel_rfl) (by kernel_rfl) (fun w' hC => eql_strG _ _ w' HBD.out.2.2.2.1 (by kernel_rfl)) ?_
          refine q_val7 (some 107) (.bool true) rfl (by kernel_rfl) (fun w' hC => by kernel_rfl) ?_
          refine q_val7 (some 108) (.bool true) rfl (by kernel_rfl) (fun w' hC => by kernel_rfl) ?_
          refine q_val7 (some 109) (.bool P.unb) rfl (by kernel_rfl) (fun w' hC => by kernel_rfl) ?_
          refine q_val7 (some 110) (.pointer (some ⟨gQ, 6, none⟩)) rfl (by kernel_rfl) (fun w' hC => by kernel_rfl) ?_
          refine q_val7 (some 111) (.pointer (some ⟨gQ, 8, none⟩)) rfl (by kernel_rfl) (fun w' hC => by kernel_rfl) ?_
          refine q_cell7 (some 112) (.bool lv.unb) 4 (.tmp 111) ⟨gQ, 8, none⟩ _ rfl (by kernel_rfl) rfl (by kernel_rfl) ((fun w' hC => (BQ.out.fr hC id).cell' rfl)) Tryz.underlying4 rfl ?_
          refine q_op7 (some 113) (.bool true) (do eqGuard .eql 4 (.tmp 109) (.tmp 112) (.bool P.unb) (.bool lv.unb); binOp .eql 4 (.bool P.unb) (.bool lv.unb)) rfl (by kernel_rfl) (by kernel_rfl) (fun w' hC => eql_boolG _ _ w' HBD.out.2.2.2.2.1 (by kernel_rfl)) ?_
          refine q_val7 (some 114) (.bool true) rfl (by kernel_rfl) (fun w' hC => by kernel_rfl) ?_
          refine q_val7 (some 115) (.bool true) rfl (by kernel_rfl) (fun w' hC => by kernel_rfl) ?_
          refine q_val7 (some 116) (.int .i64 P.right) rfl (by kernel_rfl) (fun w' hC => by kernel_rfl) ?_
          refine q_val7 (some 117) (.pointer (some ⟨gQ, 6, none⟩)) rfl (by kernel_rfl) (fun w' hC => by kernel_rfl) ?_
          refine q_val7 (some 118) (.pointer (some ⟨gQ, 9, none⟩)) rfl (by kernel_rfl) (fun w' hC => by kernel_rfl) ?_
          refine q_cell7 (some 119) (.int .i64 lv.right) 3 (.tmp 118) ⟨gQ, 9, none⟩ _ rfl (by kernel_rfl) rfl (by kernel_rfl) ((fun w' hC => (BQ.out.fr hC id).cell' rfl)) Tryz.underlying3 rfl ?_
          refine q_bool7 (some 120) ((P.right == lv.right)) true (by rw [HBD.out.2.2.2.2.2.1]; simp) rfl (by kernel_rfl) (fun w' hC => by kernel_rfl) ?_
          refine q_val7 (some 121) (.bool true) rfl (by kernel_rfl) (fun w' hC => by kernel_rfl) ?_
          refine q_val7 (some 122) (.bool true) rfl (by kernel_rfl) (fun w' hC => by kernel_rfl) ?_
          refine q_mid7 (some 123) (pzA P).toList 40 (.tmp 13) gP 0 _ rfl (by kernel_rfl) rfl (by kernel_rfl) ((fun w' hC => Blk.range7 (l := (pzA P).toList) (HPQ.out.1.fr hC id))) Tryz.underlying40 rfl (page_size) ?_
          refine q_call7 (some 124) (.int .i64 (P.size : Nat)) 14 #[.agg (pzA P)] rfl (by kernel_rfl) (fun w' hC => by kernel_rfl) (fun w' hC => (psize_ok P w' (by rw [HPQ.out.2.1]; exact HLO.out.rows.1) (by rw [HPQ.out.2.2.1]; exact HVI.out.ok.ents.1)).mono (fun e w2 h => ⟨h.1, hC.then_none h.2⟩)) ?_
          refine q_val7 (some 125) (.pointer (some ⟨gQ, 6, none⟩)) rfl (by kernel_rfl) (fun w' hC => by kernel_rfl) ?_
          refine q_val7 (some 126) (.pointer (some ⟨gQ, 10, none⟩)) rfl (by kernel_rfl) (fun w' hC => by kernel_rfl) ?_
          refine q_cell7 (some 127) (.slice A3 lv.rows.length c3) 28 (.tmp 126) ⟨gQ, 10, none⟩ _ rfl (by kernel_rfl) rfl (by kernel_rfl) ((fun w' hC => (BQ.out.fr hC id).cell' rfl)) Tryz.underlying28 rfl ?_
          refine q_val7 (some 128) (.int .i64 (lv.rows.length : Int)) rfl (by kernel_rfl) (fun w' hC => by kernel_rfl) ?_
          refine q_bool7 (some 129) ((((P.size : Nat) : Int) == (lv.rows.length : Int))) true (by rw [HBD.out.2.2.2.2.2.2]; simp) rfl (by kernel_rfl) (fun w' hC => by kernel_rfl) ?_
          refine q_val7 (some 130) (.bool true) rfl (by kernel_rfl) (fun w' hC => by kernel_rfl) ?_
          refine q_val7 (some 131) (.bool true) rfl (by kernel_rfl) (fun w' hC => by kernel_rfl) ?_
          refine q_mid7 (some 132) (pzA P).toList 40 (.tmp 13) gP 0 _ rfl (by kernel_rfl) rfl (by kernel_rfl) ((fun w' hC => Blk.range7 (l := (pzA P).toList) (HPQ.out.1.fr hC id))) Tryz.underlying40 rfl (page_size) ?_
          refine q_val7 (some 133) (.string key) rfl (by kernel_rfl) (fun w' hC => by kernel_rfl) ?_
          refine q_call7 (some 134) (.bool (inS P.low P.high P.unb key)) 15 #[.agg (pzA P), .string key] rfl (by kernel_rfl) (fun w' hC => by kernel_rfl) (fun w' hC => (phas_ok P key w' HBD.out.1 HBD.out.2.1 HK.out).mono (fun e w2 h => ⟨h.1, hC.then_none h.2⟩)) ?_
          refine q_val7 (some 135) (.pointer (some ⟨gQ, 6, none⟩)) rfl (by kernel_rfl) (fun w' hC => by kernel_rfl) ?_
          refine q_mid7 (some 136) (lwA lv (.slice A3 lv.rows.length c3)).toList 45 (.tmp 135) gQ 6 _ rfl (by kernel_rfl) rfl (by kernel_rfl) ((fun w' hC => rows_range (BQ.out.fr hC id))) Tryz.underlying45 rfl (rlw_size10) ?_
          refine q_val7 (some 137) (.string key) rfl (by kernel_rfl) (fun w' hC => by kernel_rfl) ?_
          refine q_call7 (some 138) (.bool (inS lv.low lv.high lv.unb key)) 16 #[.agg (lwA lv (.slice A3 lv.rows.length c3)), .string key] rfl (by kernel_rfl) (fun w' hC => by kernel_rfl) (fun w' hC => (rhasL_ok lv (.slice A3 lv.rows.length c3) key w' HLO.out.low HLO.out.high HK.out).mono (fun e w2 h => ⟨h.1, hC.then_none h.2⟩)) ?_
          refine q_op7 (some 139) (.bool true) (do eqGuard .eql 4 (.tmp 134) (.tmp 138) (.bool (inS P.low P.high P.unb key)) (.bool (inS lv.low lv.high lv.unb key)); binOp .eql 4 (.bool (inS P.low P.high P.unb key)) (.bool (inS lv.low lv.high lv.unb key))) rfl (by kernel_rfl) (by kernel_rfl) (fun w' hC => eql_boolG _ _ w' (by rw [HBD.out.2.2.1, HBD.out.2.2.2.1, HBD.out.2.2.2.2.1]) (by kernel_rfl)) ?_
          refine q_val7 (some 140) (.bool true) rfl (by kernel_rfl) (fun w' hC => by kernel_rfl) ?_
          refine q_val7 (some 141) (.bool true) rfl (by kernel_rfl) (fun w' hC => by kernel_rfl) ?_
          refine q_call7 (some 142) (.bool true) 7 #[] rfl (by kernel_rfl) (fun w' hC => by kernel_rfl) (fun w' hC => (awake10_ok w').mono (fun e w2 h => ⟨h.1, hC.then_none h.2⟩)) ?_
          refine q_val7 (some 143) (.bool true) rfl (by kernel_rfl) (fun w' hC => by kernel_rfl) ?_
          refine q_val7 (some 8) (.bool true) rfl (by kernel_rfl) (fun w' hC => by kernel_rfl) ?_
          refine q_done7 ?_
          intro w13 hf13
          (try simp only [Exit.then])
          (try go_frame)
          (first | (rename_i hKm; refine hKm _ _ ?_) | (rename_i hKm _; refine hKm _ _ ?_) | (rename_i hKm _ _; refine hKm _ _ ?_) | (rename_i hKm _ _ _; refine hKm _ _ ?_))
          go_meet
          case rel => exact ⟨rfl, hf13⟩
        case rest =>
          obtain ⟨rfl, hf13⟩ := hcut
          replace F9 := hid_ (F9.out.then_none hf13)
          clear hf13
          go_wp2_with fail
          go_ret
          exact ⟨rfl, F9.out⟩
      | false =>
        have HSD := hid_ (of_inner_lv HOF.out)
        have HBD : Hid (SzOk P.low ∧ SzOk P.high ∧ P.low = iv.low ∧ P.high = iv.high ∧ P.unb = iv.unb ∧ P.right = iv.right ∧ P.size = iv.ents.length) := hid_ (by
          have e1 := HPQ.out.2.1
          have e2 := HPQ.out.2.2.1
          have e3 := HPQ.out.2.2.2
          have a1 : P.low = iv.low := by unfold Pz.low; rw [e3, e2]; rfl
          have a2 : P.high = iv.high := by unfold Pz.high; rw [e3, e2]; rfl
          have a3 : P.unb = iv.unb := by unfold Pz.unb; rw [e3, e2]; rfl
          have a4 : P.right = iv.right := by unfold Pz.right; rw [e3, e2]; rfl
          refine ⟨by rw [a1]; exact HVI.out.ok.low, by rw [a2]; exact HVI.out.ok.high, a1, a2, a3, a4, ?_⟩
          unfold Pz.size
          rw [e1, e2, (of_inner_lv HOF.out).1]
          simp [Lw.zero])
        go_wp2_with (refine wpList_load_mid rfl 46 (.tmp 145) rfl gQ 12 rfl (vwA iv (.slice B3 iv.ents.length d3)).toList _ (iv_range BQ.out) Tryz.underlying46 rfl rvw_size10 ?_)
        refine (rchild_ok iv B3 d3 key w11 HVI.out HK.out).mono ?_
        intro e w12 hch
        obtain ⟨cs, ci, kc, rfl, hkc⟩ : ∃ (cs : ByteArray) (ci kc : Int), e = .returned (.tuple #[.agg #[.string cs, .int .i64 ci], .int .i64 kc]) ∧ (kc == 0) = inS P.low P.high P.unb key := by
          rw [HBD.out.2.2.1, HBD.out.2.2.2.1, HBD.out.2.2.2.2.1]
          rcases hch.1 with ⟨p, hp, rfl⟩ | ⟨hp, rfl⟩
          · exact ⟨p.1, p.2, 0, rfl, ((child_has HSD.out.2).1 ⟨p, hp⟩).symm⟩
          · refine ⟨_, _, 2, rfl, ?_⟩
            cases e2 : inS iv.low iv.high iv.unb key with
            | false => rfl
            | true =>
              obtain ⟨p, hp2⟩ := (child_has HSD.out.2).2 e2
              rw [hp] at hp2; cases hp2
        have HKC := hid_ hkc
        have f12 := hch.2
        replace HPQ : Hid (Blk w12 gP 40 (pzA P) ∧ P.lv = lv ∧ P.iv = iv ∧ P.leaf = false) := hid_ ⟨HPQ.out.1.fr f12 id, HPQ.out.2⟩
        replace BQ := hid_ (BQ.out.fr f12 id)
        replace HVI := hid_ (HVI.out.keep f12)
        replace F9 := hid_ (F9.out.then_none f12)
        clear f12 hch hkc r5
        go_upto_region 21 with fail
        obtain ⟨w14, hw14⟩ : ∃ z, z = w12.alloc (.cells #[.string cs, .int .i64 ci] 59) := ⟨_, rfl⟩
        have f14 : Fr none_ w12 w14 := by rw [hw14]; exact (Fr.refl none_ w12).alloc _
        change Code.wp _ _ _ _ (w12.alloc (.cells #[.string cs, .int .i64 ci] 59))
        rw [← hw14]
        clear hw14
        replace HPQ : Hid (Blk w14 gP 40 (pzA P) ∧ P.lv = lv ∧ P.iv = iv ∧ P.leaf = false) := hid_ ⟨HPQ.out.1.fr f14 id, HPQ.out.2⟩
        replace BQ := hid_ (BQ.out.fr f14 id)
        replace HVI := hid_ (HVI.out.keep f14)
        replace F9 := hid_ (F9.out.then_none f14)
        clear f14
        (try go_frame)
        go_cut [8] (fun u wq => u = .bool true ∧ Fr none_ w14 wq)
        case first =>
          refine wp_region_q7 (fun w' => Fr none_ w14 w') (by kernel_rfl) (by kernel_rfl) (Fr.refl none_ w14).drew ?_
          refine q_val7 (some 151) (.string P.low) rfl (by kernel_rfl) (fun w' hC => by kernel_rfl) ?_
          refine q_val7 (some 152) (.pointer (some ⟨gQ, 12, none⟩)) rfl (by kernel_rfl) (fun w' hC => by kernel_rfl) ?_
          refine q_val7 (some 153) (.pointer (some ⟨gQ, 12, none⟩)) rfl (by kernel_rfl) (fun w' hC => by kernel_rfl) ?_
          refine q_cell7 (some 154) (.string iv.low) 9 (.tmp 153) ⟨gQ, 12, none⟩ _ rfl (by kernel_rfl) rfl (by kernel_rfl) ((fun w' hC => (BQ.out.fr hC id).cell' rfl)) Tryz.underlying9 rfl ?_
          refine q_op7 (some 155) (.bool true) (do eqGuard .eql 9 (.tmp 151) (.tmp 154) (.string P.low) (.string iv.low); binOp .eql 9 (.string P.low) (.string iv.low)) rfl (by kernel_rfl) (by kernel_rfl) (fun w' hC => eql_strG _ _ w' HBD.out.2.2.1 (by kernel_rfl)) ?_
          refine q_val7 (some 156) (.bool true) rfl (by kernel_rfl) (fun w' hC => by kernel_rfl) ?_
          refine q_val7 (some 157) (.string P.high) rfl (by kernel_rfl) (fun w' hC => by kernel_rfl) ?_
          refine q_val7 (some 158) (.pointer (some ⟨gQ, 12, none⟩)) rfl (by kernel_rfl) (fun w' hC => by kernel_rfl) ?_
          refine q_val7 (some 159) (.pointer (some ⟨gQ, 13, none⟩)) rfl (by kernel_rfl) (fun w' hC => by kernel_rfl) ?_
          refine q_cell7 (some 160) (.string iv.high) 9 (.tmp 159) ⟨gQ, 13, none⟩ _ rfl (by kernel_rfl) rfl (by kernel_rfl) ((fun w' hC => (BQ.out.fr hC id).cell' rfl)) Tryz.underlying9 rfl ?_
          refine q_op7 (some 161) (.bool true) (do eqGuard .eql 9 (.tmp 157) (.tmp 160) (.string P.high) (.string iv.high); binOp .eql 9 (.string P.high) (.string iv.high)) rfl (by kernel_rfl) (by kernel_rfl) (fun w' hC => eql_strG _ _ w' HBD.out.2.2.2.1 (by kernel_rfl)) ?_
          refine q_val7 (some 162) (.bool true) rfl (by kernel_rfl) (fun w' hC => by kernel_rfl) ?_
          refine q_val7 (some 163) (.bool true) rfl (by kernel_rfl) (fun w' hC => by kernel_rfl) ?_
          refine q_val7 (some 164) (.bool P.unb) rfl (by kernel_rfl) (fun w' hC => by kernel_rfl) ?_
          refine q_val7 (some 165) (.pointer (some ⟨gQ, 12, none⟩)) rfl (by kernel_rfl) (fun w' hC => by kernel_rfl) ?_
          refine q_val7 (some 166) (.pointer (some ⟨gQ, 14, none⟩)) rfl (by kernel_rfl) (fun w' hC => by kernel_rfl) ?_
          refine q_cell7 (some 167) (.bool iv.unb) 4 (.tmp 166) ⟨gQ, 14, none⟩ _ rfl (by kernel_rfl) rfl (by kernel_rfl) ((fun w' hC => (BQ.out.fr hC id).cell' rfl)) Tryz.underlying4 rfl ?_
          refine q_op7 (some 168) (.bool true) (do eqGuard .eql 4 (.tmp 164) (.tmp 167) (.bool P.unb) (.bool iv.unb); binOp .eql 4 (.bool P.unb) (.bool iv.unb)) rfl (by kernel_rfl) (by kernel_rfl) (fun w' hC => eql_boolG _ _ w' HBD.out.2.2.2.2.1 (by kernel_rfl)) ?_
          refine q_val7 (some 169) (.bool true) rfl (by kernel_rfl) (fun w' hC => by kernel_rfl) ?_
          refine q_val7 (some 170) (.bool true) rfl (by kernel_rfl) (fun w' hC => by kernel_rfl) ?_
          refine q_val7 (some 171) (.int .i64 P.right) rfl (by kernel_rfl) (fun w' hC => by kernel_rfl) ?_
          refine q_val7 (some 172) (.pointer (some ⟨gQ, 12, none⟩)) rfl (by kernel_rfl) (fun w' hC => by kernel_rfl) ?_
          refine q_val7 (some 173) (.pointer (some ⟨gQ, 15, none⟩)) rfl (by kernel_rfl) (fun w' hC => by kernel_rfl) ?_
          refine q_cell7 (some 174) (.int .i64 iv.right) 3 (.tmp 173) ⟨gQ, 15, none⟩ _ rfl (by kernel_rfl) rfl (by kernel_rfl) ((fun w' hC => (BQ.out.fr hC id).cell' rfl)) Tryz.underlying3 rfl ?_
          refine q_bool7 (some 175) ((P.right == iv.right)) true (by rw [HBD.out.2.2.2.2.2.1]; simp) rfl (by kernel_rfl) (fun w' hC => by kernel_rfl) ?_
          refine q_val7 (some 176) (.bool true) rfl (by kernel_rfl) (fun w' hC => by kernel_rfl) ?_
          refine q_val7 (some 177) (.bool true) rfl (by kernel_rfl) (fun w' hC => by kernel_rfl) ?_
          refine q_mid7 (some 178) (pzA P).toList 40 (.tmp 13) gP 0 _ rfl (by kernel_rfl) rfl (by kernel_rfl) ((fun w' hC => Blk.range7 (l := (pzA P).toList) (HPQ.out.1.fr hC id))) Tryz.underlying40 rfl (page_size) ?_
          refine q_call7 (some 179) (.int .i64 (P.size : Nat)) 14 #[.agg (pzA P)] rfl (by kernel_rfl) (fun w' hC => by kernel_rfl) (fun w' hC => (psize_ok P w' (by rw [HPQ.out.2.1]; exact HLO.out.rows.1) (by rw [HPQ.out.2.2.1]; exact HVI.out.ok.ents.1)).mono (fun e w2 h => ⟨h.1, hC.then_none h.2⟩)) ?_
          refine q_val7 (some 180) (.pointer (some ⟨gQ, 12, none⟩)) rfl (by kernel_rfl) (fun w' hC => by kernel_rfl) ?_
          refine q_val7 (some 181) (.pointer (some ⟨gQ, 16, none⟩)) rfl (by kernel_rfl) (fun w' hC => by kernel_rfl) ?_
          refine q_cell7 (some 182) (.slice B3 iv.ents.length d3) 29 (.tmp 181) ⟨gQ, 16, none⟩ _ rfl (by kernel_rfl) rfl (by kernel_rfl) ((fun w' hC => (BQ.out.fr hC id).cell' rfl)) Tryz.underlying29 rfl ?_
          refine q_val7 (some 183) (.int .i64 (iv.ents.length : Int)) rfl (by kernel_rfl) (fun w' hC => by kernel_rfl) ?_
          refine q_bool7 (some 184) ((((P.size : Nat) : Int) == (iv.ents.length : Int))) true (by rw [HBD.out.2.2.2.2.2.2]; simp) rfl (by kernel_rfl) (fun w' hC => by kernel_rfl) ?_
          refine q_val7 (some 185) (.bool true) rfl (by kernel_rfl) (fun w' hC => by kernel_rfl) ?_
          refine q_val7 (some 186) (.bool true) rfl (by kernel_rfl) (fun w' hC => by kernel_rfl) ?_
          refine q_mid7 (some 187) (pzA P).toList 40 (.tmp 13) gP 0 _ rfl (by kernel_rfl) rfl (by kernel_rfl) ((fun w' hC => Blk.range7 (l := (pzA P).toList) (HPQ.out.1.fr hC id))) Tryz.underlying40 rfl (page_size) ?_
          refine q_val7 (some 188) (.string key) rfl (by kernel_rfl) (fun w' hC => by kernel_rfl) ?_
          refine q_call7 (some 189) (.bool (inS P.low P.high P.unb key)) 15 #[.agg (pzA P), .string key] rfl (by kernel_rfl) (fun w' hC => by kernel_rfl) (fun w' hC => (phas_ok P key w' HBD.out.1 HBD.out.2.1 HK.out).mono (fun e w2 h => ⟨h.1, hC.then_none h.2⟩)) ?_
          refine q_val7 (some 190) (.int .i64 kc) rfl (by kernel_rfl) (fun w' hC => by kernel_rfl) ?_
          refine q_bool7 (some 191) ((kc == 0)) (inS P.low P.high P.unb key) (HKC.out) rfl (by kernel_rfl) (fun w' hC => by kernel_rfl) ?_
          refine q_op7 (some 192) (.bool true) (do eqGuard .eql 4 (.tmp 189) (.tmp 191) (.bool (inS P.low P.high P.unb key)) (.bool (inS P.low P.high P.unb key)); binOp .eql 4 (.bool (inS P.low P.high P.unb key)) (.bool (inS P.low P.high P.unb key))) rfl (by kernel_rfl) (by kernel_rfl) (fun w' hC => eql_boolG _ _ w' rfl (by kernel_rfl)) ?_
          refine q_val7 (some 193) (.bool true) rfl (by kernel_rfl) (fun w' hC => by kernel_rfl) ?_
          refine q_val7 (some 194) (.bool true) rfl (by kernel_rfl) (fun w' hC => by kernel_rfl) ?_
          refine q_call7 (some 195) (.bool true) 7 #[] rfl (by kernel_rfl) (fun w' hC => by kernel_rfl) (fun w' hC => (awake10_ok w').mono (fun e w2 h => ⟨h.1, hC.then_none h.2⟩)) ?_
          refine q_val7 (some 196) (.bool true) rfl (by kernel_rfl) (fun w' hC => by kernel_rfl) ?_
          refine q_val7 (some 8) (.bool true) rfl (by kernel_rfl) (fun w' hC => by kernel_rfl) ?_
          refine q_done7 ?_
          intro w13 hf13
          (try simp only [Exit.then])
          (try go_frame)
          (first | (rename_i hKm; refine hKm _ _ ?_) | (rename_i hKm _; refine hKm _ _ ?_) | (rename_i hKm _ _; refine hKm _ _ ?_) | (rename_i hKm _ _ _; refine hKm _ _ ?_))
          go_meet
          case rel => exact ⟨rfl, hf13⟩
        case rest =>
          obtain ⟨rfl, hf13⟩ := hcut
          replace F9 := hid_ (F9.out.then_none hf13)
          clear hf13
          go_wp2_with fail
          go_ret
          exact ⟨rfl, F9.out⟩
theorem pmeans10_walk_i {H : Type} {enc : TypeId × Value → H} (n1 hs hg : Int) (A : Option Addr) (n cap : Nat) (hc : n ≤ cap) (hm : cap ≤ maxLen) (key : ByteArray) (hk : key.size ≤ reachBytes) (w : World) (h : RecordAt enc w A n) (hL : Laid w) : Calls Tryz.prog 3 #[.int .i64 n1, .agg #[.int .i64 hs, .int .i64 hg], .slice A n cap, .string key] w fun e w' => e = .returned (.bool true) ∧ Fr none_ w w' := by
  obtain ⟨L, hi, hr, hp⟩ := ins_of3 h
  exact pmeans10_law n1 hs hg A n cap L key w hi hr hp (Nat.le_trans hc hm) (szOk_of hk) hL
end Go.Proofs.YtfihfjbakfadkaaGreatDoor

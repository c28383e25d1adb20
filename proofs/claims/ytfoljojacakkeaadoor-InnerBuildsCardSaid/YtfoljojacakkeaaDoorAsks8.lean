/- InnerAsks' walk. Written by gen_asks8.py. -/
import Derived.Test.YtfoljojacakkeaaDoorGiven8
import Derived.Test.YtfoljojacakkeaaDoorCode
import Derived.Test.YtfoljojacakkeaaDoorFew8
import Derived.Test.YtfoljojacakkeaaDoorAwake8
import Derived.Test.YtfoljojacakkeaaDoorQx
namespace Go.Proofs.YtfoljojacakkeaaDoor
open Go.RowKit Go.BigFrame Go.ChangeShapes Go.WideShapes
set_option maxRecDepth 100000
set_option linter.unusedVariables false

/-- A view that came in, of any length. -/
structure VwAny (w : World) (V : Vw) (A : Option Addr) (c : Nat) : Prop where
  rd : Reads w 2 A V.ents.length (etFlat V.ents)
  cap : V.ents.length ≤ c
  capm : c ≤ maxLen
  low : SzOk V.low
  high : SzOk V.high
  hk : SzOk V.hk
  ents : ∀ p ∈ V.ents, SzOk p.1
theorem VwAny.keep {w w' : World} {V : Vw} {A : Option Addr} {c : Nat} (h : VwAny w V A c) (hf : Fr none_ w w') : VwAny w' V A c := ⟨h.rd.none_fr hf, h.cap, h.capm, h.low, h.high, h.hk, h.ents⟩
theorem VwAny.vin {w : World} {V : Vw} {A : Option Addr} {c : Nat} (h : VwAny w V A c) (hl : V.ents.length ≤ 100) : VwIn w V A c := ⟨h.rd, h.cap, h.capm, ⟨h.low, h.high, h.hk, ⟨by omega, h.ents⟩⟩⟩
abbrev baseC (V : Vw) (A : Option Addr) (c : Nat) : Ch := ⟨baseR V, none, 0, A, c⟩
theorem base_in {w : World} {V : Vw} {A : Option Addr} {c b : Nat} (h : VwAny w V A c) (hb : Blk w b 40 (recL (baseC V A c)).toArray) : InReads w (some ⟨b, 0, none⟩) 1 [baseC V A c] :=
  ⟨rfl, fun _ => ⟨b, 0, rfl, hb.lt, fun k C hC => by
    cases k with
    | succ k => simp at hC
    | zero =>
      obtain rfl : baseC V A c = C := by simpa using hC
      refine ⟨fun j v hv => ?_, ⟨⟨Reads.nil_, h.rd⟩, h.low, h.high, SzOk.nil, SzOk.nil, h.ents, h.cap, h.capm, Nat.zero_le _⟩⟩
      rw [Nat.zero_mul, Nat.add_zero, Nat.zero_add]
      exact hb.cell' (by simpa using hv)⟩⟩
theorem AtIs.uniq {L : List Et} {key : ByteArray} {k k' : Int} (hr : Rising L) (h : AtIs L key k) (h' : AtIs L key k') : k = k' := by
  rcases h with ⟨i, p, rfl, h1, h2⟩ | ⟨rfl, hn⟩
  · rcases h' with ⟨j, q, rfl, g1, g2⟩ | ⟨rfl, hn⟩
    · have lt : ∀ {i j : Nat} {p q : Et}, L[i]? = some p → L[j]? = some q → i < j → ltS p.1 q.1 = true := fun {i j p q} hp hq hij => by
        obtain ⟨d, rfl⟩ : ∃ d, j = i + 1 + d := ⟨j - i - 1, by omega⟩
        clear hij
        induction d generalizing q with
        | zero => exact hr i p q hp hq
        | succ d ih =>
          obtain ⟨r, hr'⟩ : ∃ r, L[i + 1 + d]? = some r := ⟨_, List.getElem?_eq_getElem (by have := (List.getElem?_eq_some_iff.1 hq).1; omega)⟩
          exact ltS_trans (ih hr') (hr _ r q hr' hq)
      rcases Nat.lt_trichotomy i j with h | h | h
      · exact absurd (h2.trans g2.symm) (ltS_ne (lt h1 g1 h))
      · rw [h]
      · exact absurd (g2.trans h2.symm) (ltS_ne (lt g1 h1 h))
    · exact absurd h2 (hn i p h1)
  · rcases h' with ⟨j, q, rfl, g1, g2⟩ | ⟨rfl, _⟩
    · exact absurd g2 (hn j q g1)
    · rfl
set_option maxHeartbeats 16000000 in
theorem asks8_walk (V : Vw) (A : Option Addr) (c : Nat) (key : ByteArray) (page : Int) (w : World) (h : VwAny w V A c) (hks : SzOk key) (hL : Laid w) :
    Calls Tryd.prog 5 #[vwV V (.slice A V.ents.length c), .string key, .int .i64 page] w fun e w' => e = .returned (.bool true) ∧ Fr none_ w w' := by
  have H := hid_ h
  have HLd := hid_ hL
  have F := hid_ (Fr.refl none_ w)
  clear h hL
  go_enter Tryd.func5, Tryd.ntmps5
  go_upto_region 1 with fail
  obtain ⟨w0, hw0⟩ : ∃ z, z = w.alloc (.cells (vwA V (.slice A V.ents.length c)) 52) := ⟨_, rfl⟩
  have fw0 : Fr none_ w w0 := by rw [hw0]; exact (Fr.refl none_ w).alloc _
  have BV : Hid (Blk w0 w.heap.size 52 (vwA V (.slice A V.ents.length c))) := hid_ (by rw [hw0]; exact Blk.new w _ _)
  replace H := hid_ (H.out.keep fw0)
  replace F := hid_ (F.out.then_none fw0)
  replace HLd := hid_ (HLd.out.fr fw0 id)
  change Code.wp _ _ _ _ (w.alloc (.cells (vwA V (.slice A V.ents.length c)) 52))
  rw [← hw0]
  clear hw0 fw0
  have v0 : w0.cell? ⟨w.heap.size, 0, none⟩ = some (.string V.low) := BV.out.cell' rfl
  have v1 : w0.cell? ⟨w.heap.size, 1, none⟩ = some (.string V.high) := BV.out.cell' rfl
  have v2 : w0.cell? ⟨w.heap.size, 2, none⟩ = some (.bool V.unb) := BV.out.cell' rfl
  have v3 : w0.cell? ⟨w.heap.size, 3, none⟩ = some (.int .i64 V.right) := BV.out.cell' rfl
  have v4 : w0.cell? ⟨w.heap.size, 4, none⟩ = some (.slice A V.ents.length c) := BV.out.cell' rfl
  have v5 : w0.cell? ⟨w.heap.size, 5, none⟩ = some (.bool V.held) := BV.out.cell' rfl
  have v6 : w0.cell? ⟨w.heap.size, 6, none⟩ = some (.int .i64 V.hp) := BV.out.cell' rfl
  have v7 : w0.cell? ⟨w.heap.size, 7, none⟩ = some (.int .i64 V.hl) := BV.out.cell' rfl
  have v8 : w0.cell? ⟨w.heap.size, 8, none⟩ = some (.string V.hk) := BV.out.cell' rfl
  go_wp2_with fail
  refine (rbase_ok V A c _).mono ?_
  rintro e w1 ⟨rfl, hf1⟩
  replace H := hid_ (H.out.keep hf1)
  replace F := hid_ (F.out.then_none hf1)
  replace BV := hid_ (BV.out.fr hf1 id)
  replace HLd := hid_ (HLd.out.fr hf1 id)
  clear hf1
  clear v0 v1 v2 v3 v4 v5 v6 v7 v8
  go_wp2_with fail
  obtain ⟨w2, hw2⟩ : ∃ z, z = w1.alloc (.cells (recL (baseC V A c)).toArray 40) := ⟨_, rfl⟩
  have fw2 : Fr none_ w1 w2 := by rw [hw2]; exact (Fr.refl none_ w1).alloc _
  have BB : Hid (Blk w2 w1.heap.size 40 ((recL (baseC V A c)).toArray)) := hid_ (by rw [hw2]; exact Blk.new w1 _ _)
  replace H := hid_ (H.out.keep fw2)
  replace F := hid_ (F.out.then_none fw2)
  replace BV := hid_ (BV.out.fr fw2 id)
  replace HLd := hid_ (HLd.out.fr fw2 id)
  change Calls _ _ _ (w1.alloc (.cells (recL (baseC V A c)).toArray 40)) _
  rw [← hw2]
  clear hw2 fw2
  refine (few8_ok (some ⟨w1.heap.size, 0, none⟩) 1 1 [baseC V A c] _ (base_in H.out BB.out) (by decide)).mono ?_
  rintro e w3 ⟨b, rfl, hb, hf3⟩
  have HB := hid_ hb
  replace H := hid_ (H.out.keep hf3)
  replace F := hid_ (F.out.then_none hf3)
  replace BV := hid_ (BV.out.fr hf3 id)
  replace BB := hid_ (BB.out.fr hf3 id)
  replace HLd := hid_ (HLd.out.fr hf3 id)
  clear hb hf3 BB
  cases b with
  | false =>
    go_wp2_with fail
    refine (awake8 _).mono ?_
    rintro e w9 ⟨rfl, hf9⟩
    have F9 := hid_ (F.out.then_none hf9)
    clear hf9
    go_wp2_with fail
    go_ret
    exact ⟨rfl, F9.out⟩
  | true =>
    have h100 : V.ents.length ≤ 100 := (HB.out rfl).2 0 _ rfl
    clear HB
    by_cases hg : (100 : Int) < (key.size : Int)
    · have hd : decide ((100 : Int) < (key.size : Int)) = true := by simpa using hg
      clear hg
      go_wp2_with fail
      refine (awake8 _).mono ?_
      rintro e w9 ⟨rfl, hf9⟩
      have F9 := hid_ (F.out.then_none hf9)
      clear hf9
      go_wp2_with fail
      go_ret
      exact ⟨rfl, F9.out⟩
    have hd : decide ((100 : Int) < (key.size : Int)) = false := by simpa using hg
    clear hg
    have v8 : w3.cell? ⟨w.heap.size, 8, none⟩ = some (.string V.hk) := BV.out.cell' rfl
    by_cases hg : (100 : Int) < (V.hk.size : Int)
    · have hd2 : decide ((100 : Int) < (V.hk.size : Int)) = true := by simpa using hg
      clear hg
      go_wp2_with fail
      refine (awake8 _).mono ?_
      rintro e w9 ⟨rfl, hf9⟩
      have F9 := hid_ (F.out.then_none hf9)
      clear hf9
      go_wp2_with fail
      go_ret
      exact ⟨rfl, F9.out⟩
    have hd2 : decide ((100 : Int) < (V.hk.size : Int)) = false := by simpa using hg
    clear hg
    have v4 : w3.cell? ⟨w.heap.size, 4, none⟩ = some (.slice A V.ents.length c) := BV.out.cell' rfl
    go_wp2_with fail
    refine (rising_ok V.ents A c _ H.out.rd (by omega)).mono ?_
    rintro e w4 ⟨b, rfl, hb, hf4⟩
    have HR := hid_ hb
    clear v4 v8 hd hd2
    replace H := hid_ (H.out.keep hf4)
    replace F := hid_ (F.out.then_none hf4)
    replace BV := hid_ (BV.out.fr hf4 id)
    replace HLd := hid_ (HLd.out.fr hf4 id)
    clear hb hf4
    cases b with
    | false =>
      go_wp2_with fail
      refine (awake8 _).mono ?_
      rintro e w9 ⟨rfl, hf9⟩
      have F9 := hid_ (F.out.then_none hf9)
      clear hf9
      go_wp2_with fail
      go_ret
      exact ⟨rfl, F9.out⟩
    | true =>
      have HRi := hid_ (HR.out rfl)
      clear HR
      have VI := hid_ (H.out.vin h100)
      have v0 : w4.cell? ⟨w.heap.size, 0, none⟩ = some (.string V.low) := BV.out.cell' rfl
      have v1 : w4.cell? ⟨w.heap.size, 1, none⟩ = some (.string V.high) := BV.out.cell' rfl
      have v2 : w4.cell? ⟨w.heap.size, 2, none⟩ = some (.bool V.unb) := BV.out.cell' rfl
      have v3 : w4.cell? ⟨w.heap.size, 3, none⟩ = some (.int .i64 V.right) := BV.out.cell' rfl
      have v4 : w4.cell? ⟨w.heap.size, 4, none⟩ = some (.slice A V.ents.length c) := BV.out.cell' rfl
      have v5 : w4.cell? ⟨w.heap.size, 5, none⟩ = some (.bool V.held) := BV.out.cell' rfl
      have v6 : w4.cell? ⟨w.heap.size, 6, none⟩ = some (.int .i64 V.hp) := BV.out.cell' rfl
      have v7 : w4.cell? ⟨w.heap.size, 7, none⟩ = some (.int .i64 V.hl) := BV.out.cell' rfl
      have v8 : w4.cell? ⟨w.heap.size, 8, none⟩ = some (.string V.hk) := BV.out.cell' rfl
      go_wp2_with fail
      refine (given_ok V A c _ VI.out).mono ?_
      rintro e w5 ⟨A2, c2, rfl, hown, hf5⟩
      obtain ⟨A2', c2', e2, hcap2, hcapm2, -⟩ := own_parts hown
      cases e2
      have X5 : Hid (VwIn w5 V A2 c2) := hid_ ⟨Reads.of_own hown, hcap2, hcapm2, VI.out.ok⟩
      replace H := hid_ (H.out.keep hf5)
      replace F := hid_ (F.out.then_none hf5)
      replace BV := hid_ (BV.out.fr hf5 id)
      replace VI := hid_ (VI.out.keep hf5)
      replace HLd := hid_ (HLd.out.fr hf5 id)
      clear hown hf5 hcap2 hcapm2
      clear v0 v1 v2 v3 v4 v5 v6 v7 v8
      go_upto_region 4 with fail
      obtain ⟨w6, hw6⟩ : ∃ z, z = w5.alloc (.cells (vwA V (.slice A2 V.ents.length c2)) 57) := ⟨_, rfl⟩
      have fw6 : Fr none_ w5 w6 := by rw [hw6]; exact (Fr.refl none_ w5).alloc _
      have BX : Hid (Blk w6 w5.heap.size 57 (vwA V (.slice A2 V.ents.length c2))) := hid_ (by rw [hw6]; exact Blk.new w5 _ _)
      replace H := hid_ (H.out.keep fw6)
      replace F := hid_ (F.out.then_none fw6)
      replace BV := hid_ (BV.out.fr fw6 id)
      replace VI := hid_ (VI.out.keep fw6)
      replace X5 := hid_ (X5.out.keep fw6)
      replace HLd := hid_ (HLd.out.fr fw6 id)
      change Code.wp _ _ _ _ (w5.alloc (.cells (vwA V (.slice A2 V.ents.length c2)) 57))
      rw [← hw6]
      clear hw6 fw6
      have v0 : w6.cell? ⟨w5.heap.size, 0, none⟩ = some (.string V.low) := BX.out.cell' rfl
      have v1 : w6.cell? ⟨w5.heap.size, 1, none⟩ = some (.string V.high) := BX.out.cell' rfl
      have v2 : w6.cell? ⟨w5.heap.size, 2, none⟩ = some (.bool V.unb) := BX.out.cell' rfl
      have v3 : w6.cell? ⟨w5.heap.size, 3, none⟩ = some (.int .i64 V.right) := BX.out.cell' rfl
      have v4 : w6.cell? ⟨w5.heap.size, 4, none⟩ = some (.slice A2 V.ents.length c2) := BX.out.cell' rfl
      have v5 : w6.cell? ⟨w5.heap.size, 5, none⟩ = some (.bool V.held) := BX.out.cell' rfl
      have v6 : w6.cell? ⟨w5.heap.size, 6, none⟩ = some (.int .i64 V.hp) := BX.out.cell' rfl
      have v7 : w6.cell? ⟨w5.heap.size, 7, none⟩ = some (.int .i64 V.hl) := BX.out.cell' rfl
      have v8 : w6.cell? ⟨w5.heap.size, 8, none⟩ = some (.string V.hk) := BX.out.cell' rfl
      go_wp2_with fail
      refine (child_x V A2 c2 key _ X5.out hks).mono ?_
      rintro e w7 ⟨s1, n1, k1, hc1, rfl, hf⟩
      replace H := hid_ (H.out.keep hf)
      replace F := hid_ (F.out.then_none hf)
      replace BV := hid_ (BV.out.fr hf id)
      replace VI := hid_ (VI.out.keep hf)
      replace X5 := hid_ (X5.out.keep hf)
      replace BX := hid_ (BX.out.fr hf id)
      replace HLd := hid_ (HLd.out.fr hf id)
      clear hf
      clear v0 v1 v2 v3 v4 v5 v6 v7 v8
      have HC1 := hid_ hc1
      clear hc1
      go_upto_region 5 with fail
      obtain ⟨w8, hw8⟩ : ∃ z, z = w7.alloc (.cells #[.string s1, .int .i64 n1] 60) := ⟨_, rfl⟩
      have fw8 : Fr none_ w7 w8 := by rw [hw8]; exact (Fr.refl none_ w7).alloc _
      have B1 : Hid (Blk w8 w7.heap.size 60 (#[.string s1, .int .i64 n1])) := hid_ (by rw [hw8]; exact Blk.new w7 _ _)
      replace H := hid_ (H.out.keep fw8)
      replace F := hid_ (F.out.then_none fw8)
      replace BV := hid_ (BV.out.fr fw8 id)
      replace VI := hid_ (VI.out.keep fw8)
      replace X5 := hid_ (X5.out.keep fw8)
      replace BX := hid_ (BX.out.fr fw8 id)
      replace HLd := hid_ (HLd.out.fr fw8 id)
      change Code.wp _ _ _ _ (w7.alloc (.cells #[.string s1, .int .i64 n1] 60))
      rw [← hw8]
      clear hw8 fw8
      have v0 : w8.cell? ⟨w.heap.size, 0, none⟩ = some (.string V.low) := BV.out.cell' rfl
      have v1 : w8.cell? ⟨w.heap.size, 1, none⟩ = some (.string V.high) := BV.out.cell' rfl
      have v2 : w8.cell? ⟨w.heap.size, 2, none⟩ = some (.bool V.unb) := BV.out.cell' rfl
      have v3 : w8.cell? ⟨w.heap.size, 3, none⟩ = some (.int .i64 V.right) := BV.out.cell' rfl
      have v4 : w8.cell? ⟨w.heap.size, 4, none⟩ = some (.slice A V.ents.length c) := BV.out.cell' rfl
      have v5 : w8.cell? ⟨w.heap.size, 5, none⟩ = some (.bool V.held) := BV.out.cell' rfl
      have v6 : w8.cell? ⟨w.heap.size, 6, none⟩ = some (.int .i64 V.hp) := BV.out.cell' rfl
      have v7 : w8.cell? ⟨w.heap.size, 7, none⟩ = some (.int .i64 V.hl) := BV.out.cell' rfl
      have v8 : w8.cell? ⟨w.heap.size, 8, none⟩ = some (.string V.hk) := BV.out.cell' rfl
      go_wp2_with fail
      refine (rchild_x V A c key _ VI.out hks HRi.out).mono ?_
      rintro e w9 ⟨s2, n2, k2, hc2, rfl, hf⟩
      replace H := hid_ (H.out.keep hf)
      replace F := hid_ (F.out.then_none hf)
      replace BV := hid_ (BV.out.fr hf id)
      replace VI := hid_ (VI.out.keep hf)
      replace X5 := hid_ (X5.out.keep hf)
      replace BX := hid_ (BX.out.fr hf id)
      replace B1 := hid_ (B1.out.fr hf id)
      replace HLd := hid_ (HLd.out.fr hf id)
      clear hf
      clear v0 v1 v2 v3 v4 v5 v6 v7 v8
      obtain ⟨rfl, rfl, rfl⟩ := HC1.out.uniq hc2
      clear hc2
      go_upto_region 6 with fail
      obtain ⟨w10, hw10⟩ : ∃ z, z = w9.alloc (.cells #[.string s1, .int .i64 n1] 60) := ⟨_, rfl⟩
      have fw10 : Fr none_ w9 w10 := by rw [hw10]; exact (Fr.refl none_ w9).alloc _
      have B2 : Hid (Blk w10 w9.heap.size 60 (#[.string s1, .int .i64 n1])) := hid_ (by rw [hw10]; exact Blk.new w9 _ _)
      replace H := hid_ (H.out.keep fw10)
      replace F := hid_ (F.out.then_none fw10)
      replace BV := hid_ (BV.out.fr fw10 id)
      replace VI := hid_ (VI.out.keep fw10)
      replace X5 := hid_ (X5.out.keep fw10)
      replace BX := hid_ (BX.out.fr fw10 id)
      replace B1 := hid_ (B1.out.fr fw10 id)
      replace HLd := hid_ (HLd.out.fr fw10 id)
      change Code.wp _ _ _ _ (w9.alloc (.cells #[.string s1, .int .i64 n1] 60))
      rw [← hw10]
      clear hw10 fw10
      have v0 : w10.cell? ⟨w5.heap.size, 0, none⟩ = some (.string V.low) := BX.out.cell' rfl
      have v1 : w10.cell? ⟨w5.heap.size, 1, none⟩ = some (.string V.high) := BX.out.cell' rfl
      have v2 : w10.cell? ⟨w5.heap.size, 2, none⟩ = some (.bool V.unb) := BX.out.cell' rfl
      have v3 : w10.cell? ⟨w5.heap.size, 3, none⟩ = some (.int .i64 V.right) := BX.out.cell' rfl
      have v4 : w10.cell? ⟨w5.heap.size, 4, none⟩ = some (.slice A2 V.ents.length c2) := BX.out.cell' rfl
      have v5 : w10.cell? ⟨w5.heap.size, 5, none⟩ = some (.bool V.held) := BX.out.cell' rfl
      have v6 : w10.cell? ⟨w5.heap.size, 6, none⟩ = some (.int .i64 V.hp) := BX.out.cell' rfl
      have v7 : w10.cell? ⟨w5.heap.size, 7, none⟩ = some (.int .i64 V.hl) := BX.out.cell' rfl
      have v8 : w10.cell? ⟨w5.heap.size, 8, none⟩ = some (.string V.hk) := BX.out.cell' rfl
      go_wp2_with fail
      refine (hold_x V page A2 c2 _ X5.out (by omega)).mono ?_
      rintro e w11 ⟨x1, y1, z1, m1, hh1, rfl, hf⟩
      replace H := hid_ (H.out.keep hf)
      replace F := hid_ (F.out.then_none hf)
      replace BV := hid_ (BV.out.fr hf id)
      replace VI := hid_ (VI.out.keep hf)
      replace X5 := hid_ (X5.out.keep hf)
      replace BX := hid_ (BX.out.fr hf id)
      replace B1 := hid_ (B1.out.fr hf id)
      replace B2 := hid_ (B2.out.fr hf id)
      replace HLd := hid_ (HLd.out.fr hf id)
      clear hf
      clear v0 v1 v2 v3 v4 v5 v6 v7 v8
      have HH1 := hid_ hh1
      clear hh1
      go_upto_region 7 with fail
      obtain ⟨w12, hw12⟩ : ∃ z, z = w11.alloc (.cells #[.int .i64 x1, .int .i64 y1, .string z1] 36) := ⟨_, rfl⟩
      have fw12 : Fr none_ w11 w12 := by rw [hw12]; exact (Fr.refl none_ w11).alloc _
      have B3 : Hid (Blk w12 w11.heap.size 36 (#[.int .i64 x1, .int .i64 y1, .string z1])) := hid_ (by rw [hw12]; exact Blk.new w11 _ _)
      replace H := hid_ (H.out.keep fw12)
      replace F := hid_ (F.out.then_none fw12)
      replace BV := hid_ (BV.out.fr fw12 id)
      replace VI := hid_ (VI.out.keep fw12)
      replace X5 := hid_ (X5.out.keep fw12)
      replace BX := hid_ (BX.out.fr fw12 id)
      replace B1 := hid_ (B1.out.fr fw12 id)
      replace B2 := hid_ (B2.out.fr fw12 id)
      replace HLd := hid_ (HLd.out.fr fw12 id)
      change Code.wp _ _ _ _ (w11.alloc (.cells #[.int .i64 x1, .int .i64 y1, .string z1] 36))
      rw [← hw12]
      clear hw12 fw12
      have v0 : w12.cell? ⟨w.heap.size, 0, none⟩ = some (.string V.low) := BV.out.cell' rfl
      have v1 : w12.cell? ⟨w.heap.size, 1, none⟩ = some (.string V.high) := BV.out.cell' rfl
      have v2 : w12.cell? ⟨w.heap.size, 2, none⟩ = some (.bool V.unb) := BV.out.cell' rfl
      have v3 : w12.cell? ⟨w.heap.size, 3, none⟩ = some (.int .i64 V.right) := BV.out.cell' rfl
      have v4 : w12.cell? ⟨w.heap.size, 4, none⟩ = some (.slice A V.ents.length c) := BV.out.cell' rfl
      have v5 : w12.cell? ⟨w.heap.size, 5, none⟩ = some (.bool V.held) := BV.out.cell' rfl
      have v6 : w12.cell? ⟨w.heap.size, 6, none⟩ = some (.int .i64 V.hp) := BV.out.cell' rfl
      have v7 : w12.cell? ⟨w.heap.size, 7, none⟩ = some (.int .i64 V.hl) := BV.out.cell' rfl
      have v8 : w12.cell? ⟨w.heap.size, 8, none⟩ = some (.string V.hk) := BV.out.cell' rfl
      go_wp2_with fail
      refine (rhold_x V page A c _ VI.out (by omega)).mono ?_
      rintro e w13 ⟨x2, y2, z2, m2, hh2, rfl, hf⟩
      replace H := hid_ (H.out.keep hf)
      replace F := hid_ (F.out.then_none hf)
      replace BV := hid_ (BV.out.fr hf id)
      replace VI := hid_ (VI.out.keep hf)
      replace X5 := hid_ (X5.out.keep hf)
      replace BX := hid_ (BX.out.fr hf id)
      replace B1 := hid_ (B1.out.fr hf id)
      replace B2 := hid_ (B2.out.fr hf id)
      replace B3 := hid_ (B3.out.fr hf id)
      replace HLd := hid_ (HLd.out.fr hf id)
      clear hf
      clear v0 v1 v2 v3 v4 v5 v6 v7 v8
      obtain ⟨rfl, rfl, rfl, rfl⟩ := HH1.out.uniq hh2
      clear hh2
      go_upto_region 8 with fail
      obtain ⟨w14, hw14⟩ : ∃ z, z = w13.alloc (.cells #[.int .i64 x1, .int .i64 y1, .string z1] 36) := ⟨_, rfl⟩
      have fw14 : Fr none_ w13 w14 := by rw [hw14]; exact (Fr.refl none_ w13).alloc _
      have B4 : Hid (Blk w14 w13.heap.size 36 (#[.int .i64 x1, .int .i64 y1, .string z1])) := hid_ (by rw [hw14]; exact Blk.new w13 _ _)
      replace H := hid_ (H.out.keep fw14)
      replace F := hid_ (F.out.then_none fw14)
      replace BV := hid_ (BV.out.fr fw14 id)
      replace VI := hid_ (VI.out.keep fw14)
      replace X5 := hid_ (X5.out.keep fw14)
      replace BX := hid_ (BX.out.fr fw14 id)
      replace B1 := hid_ (B1.out.fr fw14 id)
      replace B2 := hid_ (B2.out.fr fw14 id)
      replace B3 := hid_ (B3.out.fr fw14 id)
      replace HLd := hid_ (HLd.out.fr fw14 id)
      change Code.wp _ _ _ _ (w13.alloc (.cells #[.int .i64 x1, .int .i64 y1, .string z1] 36))
      rw [← hw14]
      clear hw14 fw14
      obtain ⟨ka, hka⟩ : ∃ k : Int, AtIs V.ents key k := by
        by_cases hx : ∃ (i : Nat) (p : Et), V.ents[i]? = some p ∧ p.1 = key
        · obtain ⟨i, p, h1, h2⟩ := hx
          exact ⟨(i : Int), .inl ⟨i, p, rfl, h1, h2⟩⟩
        · exact ⟨-1, .inr ⟨rfl, fun i p h1 h2 => hx ⟨i, p, h1, h2⟩⟩⟩
      have HAT : Hid (∀ k', AtIs V.ents key k' → k' = ka) := hid_ (fun k' hk' => AtIs.uniq HRi.out hk' hka)
      have hge : decide ((0 : Int) ≤ ka) = atB V.ents key := (at_rising HRi.out hka).symm
      have C1 : Hid (∀ x : Wx w14, Calls Tryd.prog 29 #[errOf k1] x.to fun e w' => e = .returned (.int .i64 k1) ∧ Fr none_ x.to w') := hid_ (fun x => code_any k1 _ (HLd.out.fr x.fr id))
      have C2 : Hid (∀ x : Wx w14, Calls Tryd.prog 29 #[errOf m1] x.to fun e w' => e = .returned (.int .i64 m1) ∧ Fr none_ x.to w') := hid_ (fun x => code_any m1 _ (HLd.out.fr x.fr id))
      have C3 : Hid (∀ x : Wx w14, Calls Tryd.prog 30 #[vwV V (.slice A2 V.ents.length c2), .string key] x.to fun e w' => e = .returned (.bool (atB V.ents key)) ∧ Fr none_ x.to w') := hid_ (fun x => has_ok V A2 c2 key _ (X5.out.keep x.fr) hks)
      have C4 : Hid (∀ x : Wx w14, Calls Tryd.prog 31 #[vwV V (.slice A V.ents.length c), .string key] x.to fun e w' => e = .returned (.int .i64 ka) ∧ Fr none_ x.to w') := hid_ (fun x => (rat_ok V A c key _ (VI.out.keep x.fr)).mono fun e w' hh => by
        obtain ⟨k', rfl, hk', hf'⟩ := hh
        rw [HAT.out k' hk']
        exact ⟨rfl, hf'⟩)
      have C5 : Hid (∀ x : Wx w14, Calls Tryd.prog 23 #[] x.to fun e w' => e = .returned (.bool true) ∧ Fr none_ x.to w') := hid_ (fun x => awake8 _)
      have qa0 : ∀ x : Wx w14, x.to.cell? ⟨w7.heap.size, 0, none⟩ = some (.string s1) := fun x => x.cell (B1.out.cell' rfl)
      have qa1 : ∀ x : Wx w14, x.to.cell? ⟨w7.heap.size, 1, none⟩ = some (.int .i64 n1) := fun x => x.cell (B1.out.cell' rfl)
      have qb0 : ∀ x : Wx w14, x.to.cell? ⟨w9.heap.size, 0, none⟩ = some (.string s1) := fun x => x.cell (B2.out.cell' rfl)
      have qb1 : ∀ x : Wx w14, x.to.cell? ⟨w9.heap.size, 1, none⟩ = some (.int .i64 n1) := fun x => x.cell (B2.out.cell' rfl)
      have qc0 : ∀ x : Wx w14, x.to.cell? ⟨w11.heap.size, 0, none⟩ = some (.int .i64 x1) := fun x => x.cell (B3.out.cell' rfl)
      have qc1 : ∀ x : Wx w14, x.to.cell? ⟨w11.heap.size, 1, none⟩ = some (.int .i64 y1) := fun x => x.cell (B3.out.cell' rfl)
      have qc2 : ∀ x : Wx w14, x.to.cell? ⟨w11.heap.size, 2, none⟩ = some (.string z1) := fun x => x.cell (B3.out.cell' rfl)
      have qd0 : ∀ x : Wx w14, x.to.cell? ⟨w13.heap.size, 0, none⟩ = some (.int .i64 x1) := fun x => x.cell (B4.out.cell' rfl)
      have qd1 : ∀ x : Wx w14, x.to.cell? ⟨w13.heap.size, 1, none⟩ = some (.int .i64 y1) := fun x => x.cell (B4.out.cell' rfl)
      have qd2 : ∀ x : Wx w14, x.to.cell? ⟨w13.heap.size, 2, none⟩ = some (.string z1) := fun x => x.cell (B4.out.cell' rfl)
      have qe0 : ∀ x : Wx w14, x.to.cell? ⟨w5.heap.size, 0, none⟩ = some (.string V.low) := fun x => x.cell (BX.out.cell' rfl)
      have qe1 : ∀ x : Wx w14, x.to.cell? ⟨w5.heap.size, 1, none⟩ = some (.string V.high) := fun x => x.cell (BX.out.cell' rfl)
      have qe2 : ∀ x : Wx w14, x.to.cell? ⟨w5.heap.size, 2, none⟩ = some (.bool V.unb) := fun x => x.cell (BX.out.cell' rfl)
      have qe3 : ∀ x : Wx w14, x.to.cell? ⟨w5.heap.size, 3, none⟩ = some (.int .i64 V.right) := fun x => x.cell (BX.out.cell' rfl)
      have qe4 : ∀ x : Wx w14, x.to.cell? ⟨w5.heap.size, 4, none⟩ = some (.slice A2 V.ents.length c2) := fun x => x.cell (BX.out.cell' rfl)
      have qe5 : ∀ x : Wx w14, x.to.cell? ⟨w5.heap.size, 5, none⟩ = some (.bool V.held) := fun x => x.cell (BX.out.cell' rfl)
      have qe6 : ∀ x : Wx w14, x.to.cell? ⟨w5.heap.size, 6, none⟩ = some (.int .i64 V.hp) := fun x => x.cell (BX.out.cell' rfl)
      have qe7 : ∀ x : Wx w14, x.to.cell? ⟨w5.heap.size, 7, none⟩ = some (.int .i64 V.hl) := fun x => x.cell (BX.out.cell' rfl)
      have qe8 : ∀ x : Wx w14, x.to.cell? ⟨w5.heap.size, 8, none⟩ = some (.string V.hk) := fun x => x.cell (BX.out.cell' rfl)
      have qf0 : ∀ x : Wx w14, x.to.cell? ⟨w.heap.size, 0, none⟩ = some (.string V.low) := fun x => x.cell (BV.out.cell' rfl)
      have qf1 : ∀ x : Wx w14, x.to.cell? ⟨w.heap.size, 1, none⟩ = some (.string V.high) := fun x => x.cell (BV.out.cell' rfl)
      have qf2 : ∀ x : Wx w14, x.to.cell? ⟨w.heap.size, 2, none⟩ = some (.bool V.unb) := fun x => x.cell (BV.out.cell' rfl)
      have qf3 : ∀ x : Wx w14, x.to.cell? ⟨w.heap.size, 3, none⟩ = some (.int .i64 V.right) := fun x => x.cell (BV.out.cell' rfl)
      have qf4 : ∀ x : Wx w14, x.to.cell? ⟨w.heap.size, 4, none⟩ = some (.slice A V.ents.length c) := fun x => x.cell (BV.out.cell' rfl)
      have qf5 : ∀ x : Wx w14, x.to.cell? ⟨w.heap.size, 5, none⟩ = some (.bool V.held) := fun x => x.cell (BV.out.cell' rfl)
      have qf6 : ∀ x : Wx w14, x.to.cell? ⟨w.heap.size, 6, none⟩ = some (.int .i64 V.hp) := fun x => x.cell (BV.out.cell' rfl)
      have qf7 : ∀ x : Wx w14, x.to.cell? ⟨w.heap.size, 7, none⟩ = some (.int .i64 V.hl) := fun x => x.cell (BV.out.cell' rfl)
      have qf8 : ∀ x : Wx w14, x.to.cell? ⟨w.heap.size, 8, none⟩ = some (.string V.hk) := fun x => x.cell (BV.out.cell' rfl)
      clear hka
      refine wp_region_quiet_x (by kernel_rfl) (by kernel_rfl) ?_
      repeat (first | go_big_quiet_step (((first | (go_at_call 29; first | exact Calls.quiet_x (C1.out _) | exact Calls.quiet_x (C2.out _)) | (go_at_call 30; exact Calls.quiet_x (C3.out _)) | (go_at_call 31; exact Calls.quiet_x (C4.out _)) | (go_at_call 23; exact Calls.quiet_x (C5.out _))))) | quiet_step (((first | (go_at_call 29; first | exact Calls.quiet_x (C1.out _) | exact Calls.quiet_x (C2.out _)) | (go_at_call 30; exact Calls.quiet_x (C3.out _)) | (go_at_call 31; exact Calls.quiet_x (C4.out _)) | (go_at_call 23; exact Calls.quiet_x (C5.out _))))))
      refine wpQuiet_nil ?_
      intro _ hw'
      obtain ⟨xq, hw''⟩ := hw'
      subst hw''
      have FX := hid_ xq.fr
      go_wp2_with fail
      go_ret
      exact ⟨rfl, F.out.then_none FX.out⟩
end Go.Proofs.YtfoljojacakkeaaDoor

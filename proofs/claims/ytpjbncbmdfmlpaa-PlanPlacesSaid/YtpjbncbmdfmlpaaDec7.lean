/- page.Page: Bounds, Has, Size; plan: beyond, upkeep, Decide by contract. Written by gen_dec7.py. -/
import Derived.Test.YtpjbncbmdfmlpaaPg7
import Derived.Test.YtpjbncbmdfmlpaaHoldM8
namespace Go.Proofs.Ytpjbncbmdfmlpaa
open Go.RowKit Go.BigFrame
set_option maxRecDepth 100000
set_option linter.unusedVariables false

/-- A page as a value. -/
structure Pz where
  n : Int
  hs : Int
  hg : Int
  C : Option Addr
  nc : Nat
  x : Nat
  vr : Value
  leaf : Bool
  lv : Lw
  A : Option Addr
  c : Nat
  iv : Vw
  B : Option Addr
  d : Nat
abbrev pzA (P : Pz) : Array Value := pgA P.n P.hs P.hg (.slice P.C P.nc P.x) P.vr P.leaf P.lv (.slice P.A P.lv.rows.length P.c) P.iv (.slice P.B P.iv.ents.length P.d)
structure PzOk (w : World) (P : Pz) : Prop where
  low : SzOk P.lv.low
  high : SzOk P.lv.high
  rows : P.lv.rows.length ≤ 300000
  iv : VwIn w P.iv P.B P.d
  nc : P.nc ≤ 4000
theorem PzOk.keep {w w' : World} {P : Pz} (h : PzOk w P) (hf : Fr none_ w w') : PzOk w' P := ⟨h.low, h.high, h.rows, h.iv.keep hf, h.nc⟩
def Pz.low (P : Pz) : ByteArray := if P.leaf then P.lv.low else P.iv.low
def Pz.high (P : Pz) : ByteArray := if P.leaf then P.lv.high else P.iv.high
def Pz.unb (P : Pz) : Bool := if P.leaf then P.lv.unb else P.iv.unb
def Pz.right (P : Pz) : Int := if P.leaf then P.lv.right else P.iv.right
def Pz.size (P : Pz) : Nat := P.lv.rows.length + P.iv.ents.length
theorem PzOk.low_ {w : World} {P : Pz} (h : PzOk w P) : SzOk P.low := by unfold Pz.low; split; exact h.low; exact h.iv.ok.low
theorem PzOk.high_ {w : World} {P : Pz} (h : PzOk w P) : SzOk P.high := by unfold Pz.high; split; exact h.high; exact h.iv.ok.high
theorem results_tmp4 {fn : Func} {t u v x : Tmp} (h : fn.results = #[.tmp t, .tmp u, .tmp v, .tmp x]) (tmps : Array Value) (P : Program) (w : World) :
    (results fn tmps).run P w = .ok (.tuple #[tmps.getD t undef, tmps.getD u undef, tmps.getD v undef, tmps.getD x undef]) w := by
  simp [results, h]
abbrev RetQ (v : Value) (w : World) (e : Ending) (w' : World) : Prop := e = .returned v ∧ Fr none_ w w'
set_option maxHeartbeats 4000000 in
theorem bounds_ok (P : Pz) (w : World) : Calls Try.prog 34 #[.agg (pzA P)] w (RetQ (.tuple #[.string P.low, .string P.high, .bool P.unb, .int .i64 P.right]) w) := by
  obtain ⟨w0, hw0⟩ : ∃ z, z = w.alloc (.cells (pzA P) 45) := ⟨_, rfl⟩
  have f0 : Fr none_ w w0 := by rw [hw0]; exact (Fr.refl none_ w).alloc _
  have B0 : Hid (Blk w0 w.heap.size 45 (pzA P)) := hid_ (by rw [hw0]; exact Blk.new w _ _)
  have F0 := hid_ f0
  clear f0
  go_enter Try.func34, Try.ntmps34
  go_upto_region 1 with fail
  change Code.wp _ _ _ _ (w.alloc (.cells (pzA P) 45))
  rw [← hw0]
  clear hw0
  have p5 : w0.cell? ⟨w.heap.size, 5, none⟩ = some (.bool P.leaf) := B0.out.cell' rfl
  have p6 : w0.cell? ⟨w.heap.size, 6, none⟩ = some (.string P.lv.low) := B0.out.cell' rfl
  have p7 : w0.cell? ⟨w.heap.size, 7, none⟩ = some (.string P.lv.high) := B0.out.cell' rfl
  have p8 : w0.cell? ⟨w.heap.size, 8, none⟩ = some (.bool P.lv.unb) := B0.out.cell' rfl
  have p9 : w0.cell? ⟨w.heap.size, 9, none⟩ = some (.int .i64 P.lv.right) := B0.out.cell' rfl
  have p12 : w0.cell? ⟨w.heap.size, 12, none⟩ = some (.string P.iv.low) := B0.out.cell' rfl
  have p13 : w0.cell? ⟨w.heap.size, 13, none⟩ = some (.string P.iv.high) := B0.out.cell' rfl
  have p14 : w0.cell? ⟨w.heap.size, 14, none⟩ = some (.bool P.iv.unb) := B0.out.cell' rfl
  have p15 : w0.cell? ⟨w.heap.size, 15, none⟩ = some (.int .i64 P.iv.right) := B0.out.cell' rfl
  cases hl : P.leaf with
  | true =>
    rw [hl] at p5
    have HL := hid_ hl
    clear hl
    go_wp2_with fail
    go_quiet (fail)
    go_wp2
    (try simp only [Exit.inBlock, Exit.then])
    refine bodyPost_ret (results_tmp4 rfl _ _ _) rfl ?_
    exact ⟨by simp [Pz.low, Pz.high, Pz.unb, Pz.right, HL.out], by repeat (first | exact F0.out | apply Fr.drewN | apply Fr.drew)⟩
  | false =>
    rw [hl] at p5
    have HL := hid_ hl
    clear hl
    go_wp2_with fail
    go_quiet (fail)
    go_wp2
    (try simp only [Exit.inBlock, Exit.then])
    refine bodyPost_ret (results_tmp4 rfl _ _ _) rfl ?_
    exact ⟨by simp [Pz.low, Pz.high, Pz.unb, Pz.right, HL.out], by repeat (first | exact F0.out | apply Fr.drewN | apply Fr.drew)⟩
set_option maxHeartbeats 4000000 in
theorem phas_ok (P : Pz) (key : ByteArray) (w : World) (h1 : SzOk P.low) (h2 : SzOk P.high) (h3 : SzOk key) : Calls Try.prog 32 #[.agg (pzA P), .string key] w (RetQ (.bool (inS P.low P.high P.unb key)) w) := by
  obtain ⟨w0, hw0⟩ : ∃ z, z = w.alloc (.cells (pzA P) 45) := ⟨_, rfl⟩
  have f0 : Fr none_ w w0 := by rw [hw0]; exact (Fr.refl none_ w).alloc _
  have B0 : Hid (Blk w0 w.heap.size 45 (pzA P)) := hid_ (by rw [hw0]; exact Blk.new w _ _)
  have F0 := hid_ f0
  have HS := hid_ (And.intro h1 (And.intro h2 h3))
  clear f0 h1 h2 h3
  go_enter Try.func32, Try.ntmps32
  go_upto_region 1 with fail
  change Code.wp _ _ _ _ (w.alloc (.cells (pzA P) 45))
  rw [← hw0]
  clear hw0
  go_wp2_with (refine wpList_load_mid rfl 45 (.tmp 2) rfl w.heap.size 0 rfl (pzA P).toList _ (Blk.range7 (l := (pzA P).toList) B0.out) Try.underlying45 rfl page_size ?_)
  refine (bounds_ok P w0).mono ?_
  rintro e w1 ⟨rfl, hf⟩
  replace F0 := hid_ (F0.out.then_none hf)
  clear hf
  go_wp2_with fail
  refine (in_ok P.low P.high P.unb key _ HS.out.1.le HS.out.2.1.le HS.out.2.2.le).mono ?_
  rintro e w2 ⟨rfl, q, rfl⟩
  go_wp2
  go_ret
  exact ⟨rfl, F0.out.drewN q⟩
set_option maxHeartbeats 4000000 in
theorem psize_ok (P : Pz) (w : World) (h1 : P.lv.rows.length ≤ 300000) (h2 : P.iv.ents.length ≤ 1000) : Calls Try.prog 33 #[.agg (pzA P)] w (RetQ (.int .i64 (P.size : Nat)) w) := by
  obtain ⟨w0, hw0⟩ : ∃ z, z = w.alloc (.cells (pzA P) 45) := ⟨_, rfl⟩
  have f0 : Fr none_ w w0 := by rw [hw0]; exact (Fr.refl none_ w).alloc _
  have B0 : Hid (Blk w0 w.heap.size 45 (pzA P)) := hid_ (by rw [hw0]; exact Blk.new w _ _)
  have F0 := hid_ f0
  clear f0
  go_enter Try.func33, Try.ntmps33
  go_upto_region 1 with fail
  change Code.wp _ _ _ _ (w.alloc (.cells (pzA P) 45))
  rw [← hw0]
  clear hw0
  have p10 : w0.cell? ⟨w.heap.size, 10, none⟩ = some (.slice P.A P.lv.rows.length P.c) := B0.out.cell' rfl
  have p16 : w0.cell? ⟨w.heap.size, 16, none⟩ = some (.slice P.B P.iv.ents.length P.d) := B0.out.cell' rfl
  have hsum : (P.lv.rows.length : Int) + (P.iv.ents.length : Int) = ((P.size : Nat) : Int) := by unfold Pz.size; omega
  have hw1 : IntKind.i64.wrap ((P.lv.rows.length : Int) + (P.iv.ents.length : Int)) = ((P.size : Nat) : Int) := by rw [hsum]; exact IntWalk.i64_in _ (by unfold Pz.size; omega)
  have HW := hid_ hw1
  go_wp2
  go_ret
  refine ⟨?_, F0.out⟩
  first | rfl | (simp only [Pz.size, Int.natCast_add]; rfl)
/-- The inner page by which a page was come to, as a value. -/
structure Az where
  some_ : Bool
  n : Int
  hs : Int
  hg : Int
  V : Vw
  B : Option Addr
  d : Nat
abbrev azA (a : Az) : Array Value := #[.bool a.some_, .int .i64 a.n, .int .i64 a.hs, .int .i64 a.hg, .string a.V.low, .string a.V.high, .bool a.V.unb, .int .i64 a.V.right, .slice a.B a.V.ents.length a.d, .bool a.V.held, .int .i64 a.V.hp, .int .i64 a.V.hl, .string a.V.hk]
theorem az_range {w : World} {g : Nat} {t : TypeId} {a : Az} (h : Blk w g t (azA a)) : w.rangeAt g 4 (vwA a.V (.slice a.B a.V.ents.length a.d)).toList := fun j v hv => by
  rw [h.cell]
  match j, hv with
  | 0, hv => exact hv
  | 1, hv => exact hv
  | 2, hv => exact hv
  | 3, hv => exact hv
  | 4, hv => exact hv
  | 5, hv => exact hv
  | 6, hv => exact hv
  | 7, hv => exact hv
  | 8, hv => exact hv
  | k + 9, hv => simp at hv
/-- What is to be done, as a value. -/
structure Pn where
  kind : Int
  to_ : Int
  ek : ByteArray
  ep : Int
  hp : Int
  hl : Int
  hk : ByteArray
abbrev pnA (p : Pn) : Array Value := #[.int .i64 p.kind, .int .i64 p.to_, .string p.ek, .int .i64 p.ep, .int .i64 p.hp, .int .i64 p.hl, .string p.hk]
abbrev pnK (k : Int) : Pn := ⟨k, 0, nilS, 0, 0, 0, nilS⟩
abbrev pnZ : Array Value := #[.int .i64 0, .int .i64 0, .string ⟨#[]⟩, .int .i64 0, .int .i64 0, .int .i64 0, .string ⟨#[]⟩]
theorem plan_size : (Try.prog.info? 81).map (·.size) = some 7 := by kernel_rfl
theorem view_size7 : (Try.prog.info? 43).map (·.size) = some 9 := by kernel_rfl
abbrev vwZ : Array Value := #[.string ⟨#[]⟩, .string ⟨#[]⟩, .bool false, .int .i64 0, .slice none 0 0, .bool false, .int .i64 0, .int .i64 0, .string ⟨#[]⟩]
def beyM (P : Pz) (a : Az) (key : ByteArray) (writes : Bool) : Pn :=
  if ltS key P.low = true then pnK 3
  else if (writes && (a.some_ && (!a.V.held && (inS a.V.low a.V.high a.V.unb P.high && !atB a.V.ents P.high)))) = true then ⟨4, 0, P.high, P.right, 0, 0, nilS⟩
  else ⟨2, P.right, nilS, 0, 0, 0, nilS⟩
set_option maxHeartbeats 8000000 in
theorem beyond_ok (P : Pz) (a : Az) (key : ByteArray) (writes : Bool) (w : World) (h : PzOk w P) (ha : VwIn w a.V a.B a.d) (hk : SzOk key) : Calls Try.prog 67 #[.agg (pzA P), .agg (azA a), .string key, .bool writes] w (RetQ (.agg (pnA (beyM P a key writes))) w) := by
  obtain ⟨w0, hw0⟩ : ∃ z, z = ((w.alloc (.cells (pzA P) 45)).alloc (.cells (azA a) 77)).alloc (.cells pnZ 81) := ⟨_, rfl⟩
  have f0 : Fr none_ w w0 := by rw [hw0]; exact (((Fr.refl none_ w).alloc _).alloc _).alloc _
  have B0 : Hid (Blk w0 w.heap.size 45 (pzA P)) := hid_ (by rw [hw0]; exact ((Blk.new w _ _).alloc _).alloc _)
  have B1 : Hid (Blk w0 (w.heap.size + 1) 77 (azA a)) := hid_ (by rw [hw0]; exact (Blk.new7 _ _ (by simp)).alloc _)
  have BO : Hid (Blk w0 (w.heap.size + 1 + 1) 81 pnZ) := hid_ (by rw [hw0]; exact Blk.new7 _ _ (by simp))
  have F0 := hid_ f0
  have HP := hid_ h
  have HA := hid_ (ha.keep f0)
  have HK := hid_ hk
  clear f0 h ha hk
  go_enter Try.func67, Try.ntmps67
  go_upto_region 1 with fail
  change Code.wp _ _ _ _ (((w.alloc (.cells (pzA P) 45)).alloc (.cells (azA a) 77)).alloc (.cells pnZ 81))
  rw [← hw0]
  clear hw0
  go_wp2_with (refine wpList_load_mid rfl 45 (.tmp 4) rfl w.heap.size 0 rfl (pzA P).toList _ (Blk.range7 (l := (pzA P).toList) B0.out) Try.underlying45 rfl page_size ?_)
  refine (bounds_ok P w0).mono ?_
  rintro e w1 ⟨rfl, hf⟩
  replace F0 := hid_ (F0.out.then_none hf)
  replace B1 := hid_ (B1.out.fr hf id)
  replace BO := hid_ (BO.out.fr hf id)
  replace HA := hid_ (HA.out.keep hf)
  clear hf B0
  go_wp2_with fail
  refine (compare_ok key P.low w1 HK.out.le HP.out.low_.le).mono ?_
  rintro e w2 ⟨rfl, q, hw2⟩
  have hf : Fr none_ w1 w2 := by rw [hw2]; exact (Fr.refl none_ w1).drewN q
  replace F0 := hid_ (F0.out.then_none hf)
  replace B1 := hid_ (B1.out.fr hf id)
  replace BO := hid_ (BO.out.fr hf id)
  replace HA := hid_ (HA.out.keep hf)
  clear hf hw2
  have hc := cmp_neg key P.low
  have hso := BO.out.lt
  cases hlt : ltS key P.low with
  | true =>
    rw [hlt] at hc
    have HL := hid_ hlt
    clear hlt
    go_wp2_with (refine wpList_store_mid rfl 81 (.tmp 8) (.tmp 25) rfl (w.heap.size + 1 + 1) 0 (pnA (pnK 3)) rfl rfl (BO.out.there7 rfl) plan_size (by simp [Value.oneCell']) ?_; have ov := BO.out.over7 (pnA (pnK 3)).toList rfl; obtain ⟨w9, hw9⟩ : ∃ z, z = w2.setCells (w.heap.size + 1 + 1) 0 (pnA (pnK 3)).toList := ⟨_, rfl⟩; rw [← hw9] at ov; change wpList _ _ _ _ _ (w2.setCells (w.heap.size + 1 + 1) 0 (pnA (pnK 3)).toList); rw [← hw9]; have OV := hid_ ov; clear hw9 ov)
    refine bodyPost_ret (results_cell7 _ _ rfl (w.heap.size + 1 + 1) 0 (pnA (pnK 3)).toList _ rfl (Blk.range7 (l := (pnA (pnK 3)).toList) OV.out.1) Try.underlying81 rfl plan_size) rfl ⟨by unfold beyM; rw [if_pos HL.out], F0.out.then_only OV.out.2 (.inr (by omega))⟩
  | false =>
    rw [hlt] at hc
    have HL := hid_ hlt
    clear hlt
    go_upto_region 5 with (first | (refine wpList_load_mid rfl 43 (.tmp 26) rfl (w.heap.size + 1) 4 rfl (vwA a.V (.slice a.B a.V.ents.length a.d)).toList _ (az_range B1.out) Try.underlying43 rfl view_size7 ?_) | (refine wpList_store_mid rfl 43 (.tmp 13) (.tmp 27) rfl w2.heap.size 0 (vwA a.V (.slice a.B a.V.ents.length a.d)) rfl rfl (new_there w2 _ vwZ) view_size7 (by simp [Value.oneCell']) ?_; obtain ⟨w3, hw3⟩ : ∃ z, z = (w2.alloc (.cells vwZ 43)).setCells w2.heap.size 0 (vwA a.V (.slice a.B a.V.ents.length a.d)).toList := ⟨_, rfl⟩; change wpList _ _ _ _ _ ((w2.alloc (.cells vwZ 43)).setCells w2.heap.size 0 (vwA a.V (.slice a.B a.V.ents.length a.d)).toList); rw [← hw3]; have P3 : Hid (Blk w3 w2.heap.size 43 (vwA a.V (.slice a.B a.V.ents.length a.d)) ∧ Fr none_ w2 w3) := hid_ (by rw [hw3]; exact new_copy w2 _ vwZ (vwA a.V (.slice a.B a.V.ents.length a.d)).toList rfl); clear hw3))
    replace F0 := hid_ (F0.out.then_none P3.out.2)
    replace B1 := hid_ (B1.out.fr P3.out.2 id)
    replace BO := hid_ (BO.out.fr P3.out.2 id)
    replace HA := hid_ (HA.out.keep P3.out.2)
    have hso := BO.out.lt
    go_frame
    go_cut [53] (fun u wq => u = .bool (writes && (a.some_ && (!a.V.held && (inS a.V.low a.V.high a.V.unb P.high && !atB a.V.ents P.high)))) ∧ Fr none_ w3 wq)
    case first =>
      have a0 : w3.cell? ⟨w.heap.size + 1, 0, none⟩ = some (.bool a.some_) := B1.out.cell' rfl
      have v0 : w3.cell? ⟨w2.heap.size, 0, none⟩ = some (.string a.V.low) := P3.out.1.cell' rfl
      have v1 : w3.cell? ⟨w2.heap.size, 1, none⟩ = some (.string a.V.high) := P3.out.1.cell' rfl
      have v2 : w3.cell? ⟨w2.heap.size, 2, none⟩ = some (.bool a.V.unb) := P3.out.1.cell' rfl
      have v3 : w3.cell? ⟨w2.heap.size, 3, none⟩ = some (.int .i64 a.V.right) := P3.out.1.cell' rfl
      have v4 : w3.cell? ⟨w2.heap.size, 4, none⟩ = some (.slice a.B a.V.ents.length a.d) := P3.out.1.cell' rfl
      have v5 : w3.cell? ⟨w2.heap.size, 5, none⟩ = some (.bool a.V.held) := P3.out.1.cell' rfl
      have v6 : w3.cell? ⟨w2.heap.size, 6, none⟩ = some (.int .i64 a.V.hp) := P3.out.1.cell' rfl
      have v7 : w3.cell? ⟨w2.heap.size, 7, none⟩ = some (.int .i64 a.V.hl) := P3.out.1.cell' rfl
      have v8 : w3.cell? ⟨w2.heap.size, 8, none⟩ = some (.string a.V.hk) := P3.out.1.cell' rfl
      cases writes with
      | false =>
        go_wp2_with fail
        go_meet
        case rel => exact ⟨by simp, Fr.refl _ _⟩
      | true =>
        cases hb : a.some_ with
        | false =>
          rw [hb] at a0
          have HBs := hid_ hb
          clear hb
          go_wp2_with fail
          go_meet
          case rel => exact ⟨by simp [HBs.out], Fr.refl _ _⟩
        | true =>
          rw [hb] at a0
          have HBs := hid_ hb
          clear hb
          cases hb : a.V.held with
          | true =>
            rw [hb] at v5
            have HBh := hid_ hb
            clear hb
            go_wp2_with fail
            go_meet
            case rel => exact ⟨by simp [HBs.out, HBh.out], Fr.refl _ _⟩
          | false =>
            rw [hb] at v5
            have HBh := hid_ hb
            clear hb
            go_wp2_with fail
            refine (in_ok a.V.low a.V.high a.V.unb P.high w3 HA.out.ok.low.le HA.out.ok.high.le HP.out.high_.le).mono ?_
            rintro e w4 ⟨rfl, q, hw4⟩
            have f4 : Fr none_ w3 w4 := by rw [hw4]; exact (Fr.refl none_ w3).drewN q
            have F4 := hid_ f4
            replace v0 := cellFr v0 f4
            replace v1 := cellFr v1 f4
            replace v2 := cellFr v2 f4
            replace v3 := cellFr v3 f4
            replace v4 := cellFr v4 f4
            replace v5 := cellFr v5 f4
            replace v6 := cellFr v6 f4
            replace v7 := cellFr v7 f4
            replace v8 := cellFr v8 f4
            clear f4 hw4
            cases hin : inS a.V.low a.V.high a.V.unb P.high with
            | false =>
              have HIN := hid_ hin
              clear hin
              go_wp2_with fail
              go_meet
              case rel => exact ⟨by simp [HBs.out, HBh.out, HIN.out], F4.out⟩
            | true =>
              have HIN := hid_ hin
              clear hin
              go_wp2_with fail
              refine (has_ok { a.V with held := false } a.B a.d P.high w4 ⟨(HA.out.keep F4.out).rd, HA.out.cap, HA.out.capm, ⟨HA.out.ok.low, HA.out.ok.high, HA.out.ok.hk, HA.out.ok.ents⟩⟩ HP.out.high_).mono ?_
              rintro e w5 ⟨rfl, hf5⟩
              have F5 := hid_ (F4.out.then_none hf5)
              clear hf5
              go_wp2_with fail
              go_meet
              case rel => exact ⟨by simp [HBs.out, HBh.out, HIN.out], F5.out⟩
    case rest =>
      obtain ⟨rfl, hf⟩ := hcut
      replace F0 := hid_ (F0.out.then_none hf)
      replace BO := hid_ (BO.out.fr hf id)
      clear hf P3
      cases hg : (writes && (a.some_ && (!a.V.held && (inS a.V.low a.V.high a.V.unb P.high && !atB a.V.ents P.high)))) with
      | true =>
        have HG := hid_ hg
        clear hg
        go_wp2_with (refine wpList_store_mid rfl 81 (.tmp 8) (.tmp 57) rfl (w.heap.size + 1 + 1) 0 (pnA (⟨4, 0, P.high, P.right, 0, 0, nilS⟩ : Pn)) rfl rfl (BO.out.there7 rfl) plan_size (by simp [Value.oneCell']) ?_; have ov := BO.out.over7 (pnA (⟨4, 0, P.high, P.right, 0, 0, nilS⟩ : Pn)).toList rfl; obtain ⟨w9, hw9⟩ : ∃ z, z = wc.setCells (w.heap.size + 1 + 1) 0 (pnA (⟨4, 0, P.high, P.right, 0, 0, nilS⟩ : Pn)).toList := ⟨_, rfl⟩; rw [← hw9] at ov; change wpList _ _ _ _ _ (wc.setCells (w.heap.size + 1 + 1) 0 (pnA (⟨4, 0, P.high, P.right, 0, 0, nilS⟩ : Pn)).toList); rw [← hw9]; have OV := hid_ ov; clear hw9 ov)
        refine bodyPost_ret (results_cell7 _ _ rfl (w.heap.size + 1 + 1) 0 (pnA (⟨4, 0, P.high, P.right, 0, 0, nilS⟩ : Pn)).toList _ rfl (Blk.range7 (l := (pnA (⟨4, 0, P.high, P.right, 0, 0, nilS⟩ : Pn)).toList) OV.out.1) Try.underlying81 rfl plan_size) rfl ⟨by unfold beyM; rw [if_neg (by rw [HL.out]; decide), if_pos HG.out], F0.out.then_only OV.out.2 (.inr (by omega))⟩
      | false =>
        have HG := hid_ hg
        clear hg
        go_wp2_with (refine wpList_store_mid rfl 81 (.tmp 8) (.tmp 59) rfl (w.heap.size + 1 + 1) 0 (pnA (⟨2, P.right, nilS, 0, 0, 0, nilS⟩ : Pn)) rfl rfl (BO.out.there7 rfl) plan_size (by simp [Value.oneCell']) ?_; have ov := BO.out.over7 (pnA (⟨2, P.right, nilS, 0, 0, 0, nilS⟩ : Pn)).toList rfl; obtain ⟨w9, hw9⟩ : ∃ z, z = wc.setCells (w.heap.size + 1 + 1) 0 (pnA (⟨2, P.right, nilS, 0, 0, 0, nilS⟩ : Pn)).toList := ⟨_, rfl⟩; rw [← hw9] at ov; change wpList _ _ _ _ _ (wc.setCells (w.heap.size + 1 + 1) 0 (pnA (⟨2, P.right, nilS, 0, 0, 0, nilS⟩ : Pn)).toList); rw [← hw9]; have OV := hid_ ov; clear hw9 ov)
        refine bodyPost_ret (results_cell7 _ _ rfl (w.heap.size + 1 + 1) 0 (pnA (⟨2, P.right, nilS, 0, 0, 0, nilS⟩ : Pn)).toList _ rfl (Blk.range7 (l := (pnA (⟨2, P.right, nilS, 0, 0, 0, nilS⟩ : Pn)).toList) OV.out.1) Try.underlying81 rfl plan_size) rfl ⟨by unfold beyM; rw [if_neg (by rw [HL.out]; decide), if_neg (by rw [HG.out]; decide)], F0.out.then_only OV.out.2 (.inr (by omega))⟩
end Go.Proofs.Ytpjbncbmdfmlpaa

/- ArenaPlays' walk. Written by gen_playsa4.py. -/
import Derived.Test.YtfoljojacakkeaaDoorDoA4
import Derived.Test.YtfoljojacakkeaaDoorRe4
import Derived.Test.YtfoljojacakkeaaDoorArAwake
import Derived.Maps.AppendAt
namespace Go.Proofs.YtfoljojacakkeaaDoor
open Go.RowKit Go.ChangeShapes Go.WideShapes
set_option maxRecDepth 100000
set_option linter.unusedVariables false
def KeysL4 (L : List RaP) : Prop := ∀ p ∈ L, KeyOk4 p.R
theorem does_ok (a G : Nat) (slots last : Int) (ss : List Sl) (L : List RaP) (A : Option Addr) (c : Nat) (D : Dn) (X : List Rf) (cx : Nat) (XA : Option Addr) (w : World) (h : PlA w a G slots last ss L A c) (hL : Laid w) (h0 : 0 ≠ G) (hX : Reads w 2 XA X.length (rfFlat X)) (hXl : X.length ≤ 5000) (hDO : DnOk w D) (hoff : OffR G D.R D.A D.B) (hz : D.R.rows.length ≤ 1000 ∧ D.R.ents.length ≤ 1000) (hs1 : 1 ≤ slots) (hs2 : slots ≤ 4096) (hLl : L.length < 5000) (hks : KeysL4 L) :
    Calls Tryd.prog 13 #[.pointer (some ⟨a, 0, none⟩), raV slots last L A c, .agg (doL D).toArray, .slice XA X.length cx] w (DoesPost a G slots last L D A w) := by
  by_cases v0 : D.verb = 0
  · exact does_alloc a G slots last ss L A c D X cx XA w h hL h0 hX hXl hDO hoff hz hs1 hs2 hLl v0
  by_cases v1 : D.verb = 1
  · exact does_load a G slots last ss L A c D X cx XA w h hL hX hXl hDO.nb hks v1
  by_cases v2 : D.verb = 2
  · exact does_free a G slots last ss L A c D X cx XA w h hL h0 hX hXl hDO.nb v2
  · exact does_other a G slots last ss L A c D X cx XA w h hX hXl hDO.nb ⟨v0, v1, v2⟩
/-- Both arenas at first. -/
theorem PlA.start {w : World} {a G N : Nat} {last : Int} (h : Ar w a G last (List.replicate N Sl.zero)) : PlA w a G N last (List.replicate N Sl.zero) [] none 0 :=
  ⟨h, RaIn.nil w, SimA.nil (fun i s hs => by rw [List.eq_of_mem_replicate (List.mem_of_getElem? hs)]; exact ⟨rfl, rfl⟩), by simp, (fun p hp => by cases hp), (fun ad h => by cases h), (fun p hp => by cases hp)⟩
/-- The refs that were told lie beside all else. -/
structure Tl4 (w wr : World) (B8 : Nat) (v : Value) (XX : List Rf) (LL : List RaP) (A2 : Option Addr) : Prop where
  own : wr.ownsRow w.heap.size 38 2 v XX.length (rfFlat XX)
  offA : ∀ ad, A2 = some ad → 0 < LL.length → v.ownBlock ≠ some ad.block
  hiA : ∀ ad, A2 = some ad → 0 < LL.length → B8 < ad.block
  low : ∀ p ∈ LL, (∀ ad, p.A = some ad → 0 < p.R.rows.length → ad.block < w.heap.size) ∧ (∀ ad, p.B = some ad → 0 < p.R.ents.length → ad.block < w.heap.size)
  keys : KeysL4 LL
/-- A round of the play. -/
structure PlS4 (w wr : World) (a G : Nat) (slots last : Int) (n B8 : Nat) (v i : Value) (k : Nat) (ss : List Sl) (LL : List RaP) (A2 : Option Addr) (c2 : Nat) (XX : List Rf) (XA : Option Addr) (cx : Nat) : Prop where
  hk : k ≤ n
  hi : i = .int .i64 k
  hv : v = .slice XA XX.length cx
  hx : XX.length ≤ k
  tl : Tl4 w wr B8 v XX LL A2
  b8 : Blk wr B8 29 (raA slots last LL A2 c2)
  pl : PlA wr a G slots last ss LL A2 c2
  hl : LL.length ≤ k
  fr : Fr none_ w wr
theorem newOk_iff {slots last : Int} : newOk slots last = true ↔ 1 ≤ slots ∧ slots ≤ 4096 ∧ 1 ≤ last ∧ last ≤ 1099511627776 := by
  unfold newOk
  simp only [Bool.and_eq_true, decide_eq_true_eq]
  omega
/-- Beside a write into a box that is none of theirs. -/
theorem PlA.far2 {w w' : World} {a G : Nat} {slots last : Int} {ss : List Sl} {L : List RaP} {A : Option Addr} {c : Nat} (h : PlA w a G slots last ss L A c) {g : Nat} {t : TypeId} {cs : Array Value} (hf : Fr (only g) w w') (hg : Blk w g t cs) (h1 : 141 ≠ t) (h2 : 60 ≠ t) (h3 : 138 ≠ t) (h4 : 147 ≠ t) (hA : ∀ ad, A = some ad → 0 < L.length → ad.block ≠ g)
    (hR : ∀ p ∈ L, OffR g p.R p.A p.B) : PlA w' a G slots last ss L A c := by
  obtain ⟨ds, hB, _⟩ := h.ar.hG
  exact ⟨h.ar.beside hf hg h1 h2 (Blk.ne_ h.ar.hA hg h3) (Blk.ne_ hB hg h4), h.ra.off hf hA hR, h.sim, h.ns, h.xg, h.offA, h.offR⟩
theorem Tl4.offR {w wr : World} {B8 : Nat} {v : Value} {XX : List Rf} {LL : List RaP} {A2 : Option Addr} (h : Tl4 w wr B8 v XX LL A2) {g : Nat} (hg : w.heap.size ≤ g) : ∀ p ∈ LL, OffR g p.R p.A p.B := fun p hp =>
  ⟨fun ad e hn => by have := (h.low p hp).1 ad e hn; omega, fun ad e hn => by have := (h.low p hp).2 ad e hn; omega⟩
/-- What both arenas show. -/
theorem shown4 (a G : Nat) (slots last : Int) (ss : List Sl) (LL : List RaP) (A2 : Option Addr) (c2 : Nat) {w : World} (h : PlA w a G slots last ss LL A2 c2) : rliveTo LL slots.toNat = liveTo ss ss.length ∧ rleftTo LL last slots.toNat = leftTo ss last ss.length := by
  have hn : slots.toNat = ss.length := by have := h.ns; omega
  rw [hn]
  exact ⟨h.sim.live _ (Nat.le_refl _), h.sim.left last _ (Nat.le_refl _)⟩
theorem own_blk4 {w : World} {base : Nat} {e : TypeId} {size n : Nat} {v : Value} {xs : List Value} (h : w.ownsRow base e size v n xs) {k : Nat} (hk : v.ownBlock = some k) : ∃ cs, Blk w k e cs := by
  rcases h.2 with ⟨rfl, _⟩ | ⟨g, cap, cur, rfl, _, hh, _⟩
  · cases hk
  · obtain rfl : g = k := by simpa [Value.ownBlock] using hk
    exact ⟨cur, hh⟩
/-- A ref more is told. -/
theorem told4 {w w8 w9 : World} {a G B8 : Nat} {slots last : Int} {ss : List Sl} {LL : List RaP} {A3 : Option Addr} {c3 : Nat} {XA : Option Addr} {XX : List Rf} {cx k : Nat} {x y : Int} {v' : Value} (hT : Tl4 w w8 B8 (.slice XA XX.length cx) XX LL A3) (hB : Blk w8 B8 29 (raA slots last LL A3 c3)) (hP : PlA w8 a G slots last ss LL A3 c3) (hF : Fr none_ w w8) (h8 : w.heap.size ≤ B8) (hx : XX.length ≤ k)
    (hown : w9.ownsRow w.heap.size 38 2 v' (XX.length + 1) (rfFlat XX ++ [.int .i64 x, .int .i64 y])) (hgr : (w8.alloc (.cells #[.int .i64 x, .int .i64 y] 38)).grownBy w9 (Value.slice XA XX.length cx).ownBlock) (hbl : v'.ownBlock = (Value.slice XA XX.length cx).ownBlock ∨ v'.ownBlock = some (w8.heap.size + 1)) :
    ∃ XX' XA' cx', v' = .slice XA' XX'.length cx' ∧ XX'.length ≤ k + 1 ∧ Tl4 w w9 B8 v' XX' LL A3 ∧ Blk w9 B8 29 (raA slots last LL A3 c3) ∧ PlA w9 a G slots last ss LL A3 c3 ∧ Fr none_ w w9 := by
  have fa : Fr none_ w8 (w8.alloc (.cells #[.int .i64 x, .int .i64 y] 38)) := (Fr.refl none_ w8).alloc _
  have oa := own_none hT.own fa
  have hlen : (XX ++ [(x, y)]).length = XX.length + 1 := by simp
  obtain ⟨A', c', hv, -, -, -⟩ := own_parts hown
  have hrf : rfFlat (XX ++ [(x, y)]) = rfFlat XX ++ [.int .i64 x, .int .i64 y] := rf_snoc XX (x, y)
  have hlA : ∀ ad, A3 = some ad → 0 < LL.length → ad.block < w8.heap.size := fun ad e hn => hP.ra.rd.blk4 (by decide) hn e
  refine ⟨XX ++ [(x, y)], A', c', by rw [hlen]; exact hv, by omega, ⟨by rw [hlen, hrf]; exact hown, fun ad e hn he => ?_, hT.hiA, hT.low, hT.keys⟩, ?_, ?_, (hF.then_none fa).grown hgr (fun b hb => .inr (hT.own.lt b hb).1)⟩
  · rcases hbl with h | h
    · rw [h] at he
      exact hT.offA ad e hn he
    · rw [h] at he
      have := hlA ad e hn
      have h2 : w8.heap.size + 1 = ad.block := by injection he
      omega
  · exact (hB.fr fa id).fr ((Fr.refl (fun b => (Value.slice XA XX.length cx).ownBlock = some b) _).grown hgr (fun b hb => .inl hb)) (fun e => own_blk_ne hT.own hB (by decide) e)
  · have hg := (Fr.refl (fun b => (Value.slice XA XX.length cx).ownBlock = some b) (w8.alloc (.cells #[.int .i64 x, .int .i64 y] 38))).grown hgr (fun b hb => .inl hb)
    cases hob : (Value.slice XA XX.length cx).ownBlock with
    | none => exact (hP.keep fa).keep (hg.mono (fun b _ e => by rw [hob] at e; cases e))
    | some g =>
      obtain ⟨cs, hb⟩ := own_blk4 oa hob
      have h1 := (hT.own.lt g hob).1
      exact (hP.keep fa).far2 (hg.mono (fun b _ e => by rw [hob] at e; injection e with e; exact e.symm)) hb (by decide) (by decide) (by decide) (by decide) (fun ad e hn he => hT.offA ad e hn (by rw [hob, he])) (hT.offR h1)
set_option maxHeartbeats 16000000 in
theorem playsa4_walk (slots last : Int) (A : Option Addr) (n cap : Nat) (L : List Dn) (w : World) (h : DnReads w A n L) (hm : n ≤ maxLen) (hLd : Laid w) :
    Calls Tryd.prog 3 #[.int .i64 slots, .int .i64 last, .slice A n cap] w fun e w' => e = .returned (.bool true) ∧ Fr none_ w w' := by
  have H := hid_ h
  have HLd := hid_ hLd
  have hln := h.1
  have HM := hid_ hm
  clear h hm hLd
  go_enter Tryd.func3, Tryd.ntmps3
  go_wp2_with fail
  refine (few4_ok slots A n cap L w H.out HM.out).mono ?_
  rintro e w1 ⟨b, rfl, hb, hf1⟩
  have F1 := hid_ hf1
  clear hf1
  cases b with
  | false =>
    go_wp2_with fail
    refine (awake4 _).mono ?_
    rintro e w2 ⟨rfl, hf2⟩
    go_wp2
    go_ret
    exact ⟨rfl, F1.out.then_none hf2⟩
  | true =>
  obtain ⟨q1, -, hq⟩ := hb rfl
  have HQ := hid_ hq
  clear hq hb
  cases hok : newOk slots last with
  | false =>
    have hno : slots < 1 ∨ 4096 < slots ∨ last < 1 ∨ 1099511627776 < last := by
      rcases Classical.em (1 ≤ slots ∧ slots ≤ 4096 ∧ 1 ≤ last ∧ last ≤ 1099511627776) with h | h
      · rw [newOk_iff.2 h] at hok; cases hok
      · omega
    have hnv : newV slots last = raV 0 0 [] none 0 := by unfold newV; rw [if_neg (by rw [hok]; decide)]
    have HOK := hid_ (And.intro hok hnv)
    go_wp2_with fail
    refine (arNew_no slots last w1 hno).mono ?_
    rintro e w2 ⟨rfl, rfl⟩
    clear hok hnv hno
    go_wp2_with fail
    refine (rnew_ok slots last w1).mono ?_
    rintro e w3 ⟨rfl, hf3⟩
    rw [HOK.out.1, HOK.out.2]
    go_wp2_with fail
    refine (awake4 _).mono ?_
    rintro e w4 ⟨rfl, hf4⟩
    go_wp2
    go_ret
    exact ⟨rfl, ((F1.out.then_none hf3).alloc _).then_none hf4⟩
  | true =>
    obtain ⟨o1, o2, o3, o4⟩ := newOk_iff.1 hok
    obtain ⟨N, rfl⟩ : ∃ N : Nat, slots = N := ⟨slots.toNat, by omega⟩
    have hnv : newV N last = raV N last [] none 0 := by unfold newV; rw [if_pos hok]
    have HOK := hid_ (And.intro hok hnv)
    clear hok hnv
    go_wp2_with fail
    refine (arNew_ok N last w1 (by omega) (by omega) o3 o4).mono ?_
    rintro e w2 ⟨a, G, rfl, hA2, hf2, ha, hG⟩
    have K2 := hid_ hA2
    have F2 := hid_ (F1.out.then_none hf2)
    have hG0 : w.heap.size ≤ G := Nat.le_trans F1.out.size hG
    have hw0 := HLd.out.lt
    clear hA2 hf2 ha hG
    go_wp2_with fail
    refine (rnew_ok N last w2).mono ?_
    rintro e w3 ⟨rfl, hf3⟩
    rw [HOK.out.1, HOK.out.2]
    go_upto_region 5 with fail
    obtain ⟨w4, hw4⟩ : ∃ z, z = w3.alloc (.cells (raA N last [] none 0) 29) := ⟨_, rfl⟩
    have f4 : Fr none_ w3 w4 := by rw [hw4]; exact (Fr.refl none_ w3).alloc _
    have B8 : Hid (Blk w4 w3.heap.size 29 (raA N last [] none 0)) := hid_ (by rw [hw4]; exact Blk.new w3 _ _)
    change Code.wp _ _ _ _ (w3.alloc (.cells (raA N last [] none 0) 29))
    rw [← hw4]
    clear hw4
    have F4 : Hid (Fr none_ w w4) := hid_ ((F2.out.then_none hf3).then_none f4)
    have P4 : Hid (PlA w4 a G N last (List.replicate N Sl.zero) [] none 0) := hid_ (((PlA.start K2.out).keep hf3).keep f4)
    have h8 : w.heap.size ≤ w3.heap.size := (F2.out.then_none hf3).size
    clear f4 hf3 K2 F2 F1
    go_wp2_with fail
    go_loopw [10, 47] (fun v i wr => ∃ k ss LL A2 c2 XX XA cx, PlS4 w wr a G N last n w3.heap.size v i k ss LL A2 c2 XX XA cx) (fun _ i _ => n - (intOf i).toNat)
    case atStart => exact ⟨0, _, [], none, 0, [], none, 0, Nat.zero_le _, rfl, rfl, Nat.le_refl _, ⟨World.ownsRow_nil _ _ _ _, (fun ad e => by cases e), (fun ad e => by cases e), (fun p hp => by cases hp), (fun p hp => by cases hp)⟩, B8.out, P4.out, Nat.le_refl _, F4.out⟩
    case round =>
      obtain ⟨k, ss, LL, A2, c2, XX, XA, cx, hS⟩ := hrel
      obtain ⟨hk, rfl, rfl, hx, htl, hb8, hpl, hl, hfr⟩ := hS
      have TL := hid_ htl
      have BB := hid_ hb8
      have PL := hid_ hpl
      have F := hid_ hfr
      clear htl hb8 hpl hfr
      by_cases hlt : k < n
      · obtain ⟨D, hD⟩ : ∃ D, L[k]? = some D := ⟨_, List.getElem?_eq_getElem (by omega)⟩
        obtain ⟨b, off, rfl, hb, hR, hO⟩ := (H.out.keep F.out).at_ hD
        have hlow : (∀ ad, D.A = some ad → 0 < D.R.rows.length → ad.block < w.heap.size) ∧ (∀ ad, D.B = some ad → 0 < D.R.ents.length → ad.block < w.heap.size) := by
          obtain ⟨_, _, _, _, _, hO0⟩ := H.out.at_ hD
          exact hO0.rd.low
        have hz := HQ.out k D hD
        have HR := hid_ hR
        have HO := hid_ hO
        have HLW := hid_ hlow
        have hi0 : (0 : Int) ≤ (k : Int) := Int.natCast_nonneg _
        have hi1 : (k : Int) < (n : Int) := by omega
        clear hR hO hD hlow
        go_upto_region 11 with (first | (refine wpList_load_mid rfl 42 (.tmp 49) rfl b (off + k * 20) rfl (doL D) _ HR.out Tryd.underlying42 rfl do_size ?_) | (refine wpList_store_mid rfl 42 (.tmp 12) (.tmp 50) rfl wr.heap.size 0 (doL D).toArray rfl rfl (new_there wr _ doZ) do_size (do_one D) ?_; obtain ⟨w5, hw5⟩ : ∃ z, z = (wr.alloc (.cells doZ 42)).setCells wr.heap.size 0 (doL D) := ⟨_, rfl⟩; change wpList _ _ _ _ _ ((wr.alloc (.cells doZ 42)).setCells wr.heap.size 0 (doL D)); rw [← hw5]; have X5 : Hid (Blk w5 wr.heap.size 42 (doL D).toArray ∧ Fr none_ wr w5) := hid_ (by rw [hw5]; exact new_copy wr _ doZ _ rfl); clear hw5))
        have BB5 := hid_ (BB.out.fr X5.out.2 id)
        have PL5 := hid_ (PL.out.keep X5.out.2)
        have F5 := hid_ (F.out.then_none X5.out.2)
        have TO5 := hid_ (own_none TL.out.own X5.out.2)
        have v0 : w5.cell? ⟨w3.heap.size, 0, none⟩ = some (.int .i64 N) := BB5.out.cell' rfl
        have v1 : w5.cell? ⟨w3.heap.size, 1, none⟩ = some (.int .i64 last) := BB5.out.cell' rfl
        have v2 : w5.cell? ⟨w3.heap.size, 2, none⟩ = some (.slice A2 LL.length c2) := BB5.out.cell' rfl
        go_wp2_with (refine wpList_load_mid rfl 42 (.tmp 12) rfl wr.heap.size 0 rfl (doL D) _ (Blk.range4 (cs := doL D) X5.out.1) Tryd.underlying42 rfl do_size ?_)
        refine (does_ok a G N last ss LL A2 c2 D XX cx XA w5 PL5.out (HLd.out.fr F5.out id) (by omega) (Reads.of_own TO5.out) (by omega) (HO.out.keep X5.out.2) ⟨fun ad e hn => by have := HLW.out.1 ad e hn; omega, fun ad e hn => by have := HLW.out.2 ad e hn; omega⟩ ⟨by omega, by omega⟩ o1 o2 (by omega) TL.out.keys).mono ?_
        rintro e w6 ⟨ss', LL', A3, c3, x, y, rfl, hpl, hll, hfl, hfa, hf6⟩
        have hG5 := PL5.out.ar.ltG
        have TO6 := hid_ (own_fr TO5.out hf6 (fun j hj e => by obtain ⟨cs, hB, _⟩ := PL5.out.ar.hG; exact own_blk_ne TO5.out hB (by decide) (by rw [hj]; exact congrArg some e)))
        have BB6 : Hid (Blk w6 w3.heap.size 29 (raA N last LL A2 c2)) := hid_ (BB5.out.fr hf6 (only_ne (fun e => by obtain ⟨cs, hB, _⟩ := PL5.out.ar.hG; exact Blk.ne_ BB5.out hB (by decide) e)))
        have PL6 := hid_ hpl
        have F6 := hid_ (F5.out.then_only hf6 (.inr hG0))
        have TL6 : Hid (Tl4 w w6 w3.heap.size (.slice XA XX.length cx) XX LL' A3) := hid_ ⟨TO6.out, fun ad had hn e => by
            rcases hfa with ⟨rfl, hfl2⟩ | hfa
            · exact TL.out.offA ad had (by omega) e
            · have h1 := (TO5.out.lt ad.block e).2
              have h2 := hfa ad had
              omega, fun ad had hn => by
            rcases hfa with ⟨rfl, hfl2⟩ | hfa
            · exact TL.out.hiA ad had (by omega)
            · have h2 := hfa ad had
              have h3 := BB5.out.lt
              omega, fun p hp => by
            rcases hfl p hp with ⟨q, hq, e1, e2, e3⟩ | ⟨e1, e2, e3⟩
            · rw [e1, e2, e3]; exact TL.out.low q hq
            · rw [e1, e2, e3]; exact HLW.out, fun p hp => by
            rcases hfl p hp with ⟨q, hq, e1, -, -⟩ | ⟨e1, -, -⟩
            · rw [e1]; exact TL.out.keys q hq
            · rw [e1]; exact HO.out.ks⟩
        clear v0 v1 v2 hpl hfl hfa hf6 TO5 TO6 BB5 PL5 F5 X5 PL BB TL F
        go_upto_region 12 with fail
        obtain ⟨w7, hw7⟩ : ∃ z, z = (w6.alloc (.cells (raA N last LL' A3 c3) 29)).alloc (.cells #[.int .i64 x, .int .i64 y] 38) := ⟨_, rfl⟩
        have f7 : Fr none_ w6 w7 := by rw [hw7]; exact ((Fr.refl none_ w6).alloc _).alloc _
        have BR : Hid (Blk w7 w6.heap.size 29 (raA N last LL' A3 c3)) := hid_ (by rw [hw7]; exact (Blk.new w6 _ _).alloc _)
        have BX : Hid (Blk w7 (w6.heap.size + 1) 38 #[.int .i64 x, .int .i64 y]) := hid_ (by rw [hw7]; exact Blk.new_at4 _ _ (by simp))
        change Code.wp _ _ _ _ ((w6.alloc (.cells (raA N last LL' A3 c3) 29)).alloc (.cells #[.int .i64 x, .int .i64 y] 38))
        rw [← hw7]
        clear hw7
        have BB7 := hid_ (BB6.out.fr f7 id)
        have PL7 := hid_ (PL6.out.keep f7)
        have F7 := hid_ (F6.out.then_none f7)
        have TO7 := hid_ (own_none TL6.out.own f7)
        clear f7 BB6 PL6 F6
        have h83 := BB7.out.lt
        go_upto_region 13 with (first | (refine wpList_load_mid rfl 29 (.tmp 13) rfl w6.heap.size 0 rfl (raA N last LL' A3 c3).toList _ (Blk.range4 (cs := (raA N last LL' A3 c3).toList) BR.out) Tryd.underlying29 rfl (by kernel_rfl) ?_) | (refine wpList_store_mid rfl 29 (.tmp 8) (.tmp 60) rfl w3.heap.size 0 (raA N last LL' A3 c3) rfl rfl (BB7.out.there4 rfl) (by kernel_rfl) (by simp [Value.oneCell']) ?_; have ov := Blk.over4 BB7.out (raA N last LL' A3 c3).toList rfl; obtain ⟨w8, hw8⟩ : ∃ z, z = w7.setCells w3.heap.size 0 (raA N last LL' A3 c3).toList := ⟨_, rfl⟩; rw [← hw8] at ov; change wpList _ _ _ _ _ (w7.setCells w3.heap.size 0 (raA N last LL' A3 c3).toList); rw [← hw8]; clear hw8; have OV := hid_ ov; clear ov))
        have BB8 : Hid (Blk w8 w3.heap.size 29 (raA N last LL' A3 c3)) := hid_ OV.out.1
        have TL8 : Hid (Tl4 w w8 w3.heap.size (.slice XA XX.length cx) XX LL' A3) := hid_ ⟨own_fr TO7.out OV.out.2 (fun j hj e => own_blk_ne TO7.out BB7.out (by decide) (by rw [hj]; exact congrArg some e)), TL6.out.offA, TL6.out.hiA, TL6.out.low, TL6.out.keys⟩
        have PL8 : Hid (PlA w8 a G N last ss' LL' A3 c3) := hid_ (PL7.out.far2 OV.out.2 BB7.out (by decide) (by decide) (by decide) (by decide) (fun ad e hn => by have := TL6.out.hiA ad e hn; omega) (TL6.out.offR h8))
        have F8 : Hid (Fr none_ w w8) := hid_ (F7.out.then_only OV.out.2 (.inr h8))
        have BX8 := hid_ (BX.out.fr OV.out.2 (only_ne (Ne.symm (Blk.ne_ BB7.out BX.out (by decide)))))
        clear BB7 TL6 PL7 F7 BX BR TO7 OV
        have x0 : w8.cell? ⟨w6.heap.size + 1, 0, none⟩ = some (.int .i64 x) := BX8.out.cell' rfl
        have x1 : w8.cell? ⟨w6.heap.size + 1, 1, none⟩ = some (.int .i64 y) := BX8.out.cell' rfl
        go_frame
        go_upto_if 63 with fail
        go_cut [10] (fun v wq => ∃ XX' XA' cx', v = .slice XA' XX'.length cx' ∧ XX'.length ≤ k + 1 ∧ Tl4 w wq w3.heap.size v XX' LL' A3 ∧ Blk wq w3.heap.size 29 (raA N last LL' A3 c3) ∧ PlA wq a G N last ss' LL' A3 c3 ∧ Fr none_ w wq)
        case first =>
          by_cases hx0 : 0 < x
          · have hd : decide (0 < x) = true := decide_eq_true hx0
            obtain ⟨i0, hi0', hz0, hs0, hb0⟩ := info_parts ref_info
            have Hi := hid_ (And.intro hi0' (And.intro hz0 (And.intro hs0 hb0)))
            clear hi0' hz0 hs0 hb0
            have hF8 := F8.out.size
            go_wp2_with (at_builtin; refine wpList_append_own_at _ rfl _ _ 32 rfl w.heap.size 38 i0 _ 2 16 Tryd.underlying32 Hi.out.1 Hi.out.2.1 Hi.out.2.2.1 Hi.out.2.2.2 rfl (by decide) _ _ _ rfl (TL8.out.own.alloc _) ⟨w8.heap.size, 0, none⟩ 1 1 [.int .i64 x, .int .i64 y] rfl rfl ?c1 ?c2 ?c3 ?c4 ?c5 ?_)
            case c1 =>
              intro j u hu
              rw [add_lit, Nat.zero_add]
              exact (Blk.new w8 38 #[.int .i64 x, .int .i64 y]).cell' (by simpa using hu)
            case c2 => intro u hu; simp at hu; rcases hu with rfl | rfl <;> rfl
            case c3 => unfold maxLen; omega
            case c4 => omega
            case c5 => simp; omega
            intro v' w9 hown9 hgr9 _ hblk9
            have HRL := hid_ (told4 (k := k) (a := a) (G := G) (ss := ss') (slots := (N : Int)) (last := last) TL8.out BB8.out PL8.out F8.out h8 hx hown9 hgr9 hblk9)
            clear hown9 hgr9 hblk9
            go_wp2
            go_meet
            case rel => exact HRL.out
          · have hd : decide (0 < x) = false := decide_eq_false hx0
            go_wp2_with fail
            go_meet
            case rel => exact ⟨XX, XA, cx, rfl, by omega, TL8.out, BB8.out, PL8.out, F8.out⟩
        case rest =>
          obtain ⟨XX', XA', cx', rfl, hx', htl, hbb, hpl, hfr⟩ := hcut
          obtain ⟨wz, rfl⟩ : ∃ z : World, z = wc := ⟨_, rfl⟩
          have TL := hid_ htl
          have BB := hid_ hbb
          have PL := hid_ hpl
          have F := hid_ hfr
          clear htl hbb hpl hfr
          have hsh := shown4 a G N last ss' LL' A3 c3 PL.out
          obtain ⟨LX, hLX⟩ : ∃ z, z = liveTo ss' ss'.length := ⟨_, rfl⟩
          obtain ⟨LN, hLN⟩ : ∃ z, z = leftTo ss' last ss'.length := ⟨_, rfl⟩
          rw [← hLX, ← hLN] at hsh
          have hxl : LX.length ≤ 5000 := by have := rlive_le LL' (N : Int).toNat; rw [hsh.1] at this; omega
          have HSH := hid_ hsh
          have HLX := hid_ hLX
          have HLN := hid_ hLN
          clear hsh hLX hLN
          go_upto_region 15 with fail
          go_cut [84] (fun u wq => u = .bool false ∧ Fr none_ wz wq)
          case first =>
            have hS : (fun w' : World => Blk w' w3.heap.size 29 (raA N last LL' A3 c3)) wz.drew := BB.out.drew
            refine wp_region_u 17 (fun w' : World => Blk w' w3.heap.size 29 (raA N last LL' A3 c3)) (by kernel_rfl) ?_
            refine u_take 0 (some 68) (.bool true) rfl rfl (by kernel_rfl) (by kernel_rfl) (by kernel_rfl) (by kernel_rfl) (fun _ _ _ h => h) (y_val (by kernel_rfl) (fun w' hS => by kernel_rfl)) hS ?_
            refine u_take 1 (some 69) (.bool false) rfl rfl (by kernel_rfl) (by kernel_rfl) (by kernel_rfl) (by kernel_rfl) (fun _ _ _ h => h) (y_val (by kernel_rfl) (fun w' hS => by kernel_rfl)) hS ?_
            refine u_take 2 (some 70) (.bool false) rfl rfl (by kernel_rfl) (by kernel_rfl) (by kernel_rfl) (by kernel_rfl) (fun _ _ _ h => h) (y_val (by kernel_rfl) (fun w' hS => by kernel_rfl)) hS ?_
            refine u_take 3 (some 71) (.pointer (some ⟨a, 0, none⟩)) rfl rfl (by kernel_rfl) (by kernel_rfl) (by kernel_rfl) (by kernel_rfl) (fun _ _ _ h => h) (y_val (by kernel_rfl) (fun w' hS => by kernel_rfl)) hS ?_
            refine u_take 5 (some 73) (.agg (raA N last LL' A3 c3)) rfl rfl (by kernel_rfl) (by kernel_rfl) (by kernel_rfl) (by kernel_rfl) (fun _ _ _ h => h) (yieldsIf_load_mid (by kernel_rfl) 29 (.tmp 8) rfl (w3.heap.size) 0 (by kernel_rfl) (raA N last LL' A3 c3).toList _ (fun w' hS => Blk.range4 (cs := (raA N last LL' A3 c3).toList) hS) Tryd.underlying29 rfl (by kernel_rfl)) hS ?_
            refine u_callE 4 (some 72) 15 #[.pointer (some ⟨a, 0, none⟩)] (fun v w' => ∃ A1 c1, v = .slice A1 LX.length c1 ∧ w'.ownsRow wz.drew.heap.size 38 2 (.slice A1 LX.length c1) LX.length (rfFlat LX) ∧ Fr none_ wz.drew w') rfl rfl (by kernel_rfl) (by kernel_rfl) (by kernel_rfl) ((live_ok wz.drew (PL.out.ar.keep (Fr.refl none_ wz).drew)).mono (fun e w' h => by obtain ⟨A1, c1, h1, h2, h3⟩ := h; rw [HLX.out]; exact ⟨_, h1, A1, c1, rfl, h2, h3⟩)) ?_
            rintro v1 q1 ⟨A1, c1, rfl, ho1, hf1⟩
            have f1 : Fr none_ wz q1 := (Fr.refl none_ wz).drew.then_none hf1
            have O1 := hid_ ho1
            have FQ1 := hid_ f1
            clear hS ho1 hf1 f1
            refine ⟨BB.out.fr FQ1.out id, ?_⟩
            refine u_callE 6 (some 74) 16 #[.agg (raA N last LL' A3 c3)] (fun v w' => ∃ A2 c2, v = .slice A2 LX.length c2 ∧ w'.ownsRow q1.heap.size 38 2 (.slice A2 LX.length c2) LX.length (rfFlat LX) ∧ Fr none_ q1 w') rfl rfl (by kernel_rfl) (by kernel_rfl) (by kernel_rfl) ((rlive_ok N last LL' A3 c3 q1 (by omega) o2 (PL.out.ra.keep FQ1.out)).mono (fun e w' h => by obtain ⟨A2, c2, h1, h2, h3⟩ := h; rw [HSH.out.1] at h1 h2; exact ⟨_, h1, A2, c2, rfl, h2, h3⟩)) ?_
            rintro v2 q2 ⟨B1, d1, rfl, ho2, hf2⟩
            have O2 := hid_ ho2
            replace O1 := hid_ (own_none O1.out hf2)
            have FQ2 := hid_ (FQ1.out.then_none hf2)
            clear ho2 hf2
            refine ⟨BB.out.fr FQ2.out id, ?_⟩
            refine u_call 7 (some 75) 14 #[.slice A1 LX.length c1, .slice B1 LX.length d1] (.bool true) (Fr none_ q2) rfl rfl (by kernel_rfl) (by kernel_rfl) (by kernel_rfl) (sameRefs_ok LX A1 B1 c1 d1 q2 hxl (Reads.of_own O1.out) (Reads.of_own O2.out)) ?_
            intro q3 hf3
            have FQ3 := hid_ (FQ2.out.then_none hf3)
            clear hf3
            have hS : (fun w' : World => Blk w' w3.heap.size 29 (raA N last LL' A3 c3)) q3 := BB.out.fr FQ3.out id
            refine ⟨hS, ?_⟩
            refine u_take 8 (some 76) (.bool false) rfl rfl (by kernel_rfl) (by kernel_rfl) (by kernel_rfl) (by kernel_rfl) (fun _ _ _ h => h) (y_val (by kernel_rfl) (fun w' hS => by kernel_rfl)) hS ?_
            refine u_take 9 (some 77) (.bool false) rfl rfl (by kernel_rfl) (by kernel_rfl) (by kernel_rfl) (by kernel_rfl) (fun _ _ _ h => h) (y_val (by kernel_rfl) (fun w' hS => by kernel_rfl)) hS ?_
            refine u_take 10 (some 78) (.bool false) rfl rfl (by kernel_rfl) (by kernel_rfl) (by kernel_rfl) (by kernel_rfl) (fun _ _ _ h => h) (y_val (by kernel_rfl) (fun w' hS => by kernel_rfl)) hS ?_
            refine u_take 11 (some 79) (.pointer (some ⟨a, 0, none⟩)) rfl rfl (by kernel_rfl) (by kernel_rfl) (by kernel_rfl) (by kernel_rfl) (fun _ _ _ h => h) (y_val (by kernel_rfl) (fun w' hS => by kernel_rfl)) hS ?_
            refine u_take 13 (some 81) (.agg (raA N last LL' A3 c3)) rfl rfl (by kernel_rfl) (by kernel_rfl) (by kernel_rfl) (by kernel_rfl) (fun _ _ _ h => h) (yieldsIf_load_mid (by kernel_rfl) 29 (.tmp 8) rfl (w3.heap.size) 0 (by kernel_rfl) (raA N last LL' A3 c3).toList _ (fun w' hS => Blk.range4 (cs := (raA N last LL' A3 c3).toList) hS) Tryd.underlying29 rfl (by kernel_rfl)) hS ?_
            refine u_call 12 (some 80) 17 #[.pointer (some ⟨a, 0, none⟩)] (.int .i64 (LN : Nat)) (Fr none_ q3) rfl rfl (by kernel_rfl) (by kernel_rfl) (by kernel_rfl) ((left_ok q3 (PL.out.ar.keep FQ3.out)).mono (fun e w' h => by rw [HLN.out]; exact h)) ?_
            intro q4 hf4
            have FQ4 := hid_ (FQ3.out.then_none hf4)
            clear hf4 hS
            refine ⟨BB.out.fr FQ4.out id, ?_⟩
            refine u_call 14 (some 82) 18 #[.agg (raA N last LL' A3 c3)] (.int .i64 (LN : Nat)) (Fr none_ q4) rfl rfl (by kernel_rfl) (by kernel_rfl) (by kernel_rfl) ((rleft_ok N last LL' A3 c3 q4 (by omega) o2 (PL.out.ra.keep FQ4.out)).mono (fun e w' h => by rw [HSH.out.2] at h; exact h)) ?_
            intro q5 hf5
            have FQ5 := hid_ (FQ4.out.then_none hf5)
            clear hf5
            have hS : (fun w' : World => Blk w' w3.heap.size 29 (raA N last LL' A3 c3)) q5 := BB.out.fr FQ5.out id
            refine ⟨hS, ?_⟩
            refine u_take 15 (some 83) (.bool false) rfl rfl (by kernel_rfl) (by kernel_rfl) (by kernel_rfl) (by kernel_rfl) (fun _ _ _ h => h) (y_bool (b := ((LN : Nat) : Int) != ((LN : Nat) : Int)) (by simp) (by kernel_rfl) (fun w' hS => by kernel_rfl)) hS ?_
            refine u_take 16 (some 84) (.bool false) rfl rfl (by kernel_rfl) (by kernel_rfl) (by kernel_rfl) (by kernel_rfl) (fun _ _ _ h => h) (y_val (by kernel_rfl) (fun w' hS => by kernel_rfl)) hS ?_
            refine u_done (by kernel_rfl) ?_
            simp only [Exit.then]
            go_frame
            rename_i hKm
            refine hKm _ _ ?_
            go_meet
            case rel => exact ⟨rfl, FQ5.out⟩
          case rest =>
            obtain ⟨rfl, hf⟩ := hcut
            have TLc : Hid (Tl4 w wc w3.heap.size (.slice XA' XX'.length cx') XX' LL' A3) := hid_ ⟨own_none TL.out.own hf, TL.out.offA, TL.out.hiA, TL.out.low, TL.out.keys⟩
            have BBc := hid_ (BB.out.fr hf id)
            have PLc := hid_ (PL.out.keep hf)
            have Fc := hid_ (F.out.then_none hf)
            clear hf
            go_wp2_with fail
            go_roundw
            case rel => exact ⟨k + 1, ss', LL', A3, c3, XX', XA', cx', by omega, by go_num, rfl, hx', TLc.out, BBc.out, PLc.out, by omega, Fc.out⟩
            case measure => simp [intOf]; omega
      · have hk2 : ¬ ((k : Int) < (n : Int)) := by omega
        go_wp2_with fail
        refine (awake4 _).mono ?_
        rintro e w5 ⟨rfl, hf5⟩
        go_wp2
        go_ret
        exact ⟨rfl, F.out.then_none hf5⟩
end Go.Proofs.YtfoljojacakkeaaDoor

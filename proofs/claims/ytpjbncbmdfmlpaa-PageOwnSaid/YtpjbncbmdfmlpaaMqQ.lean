/- Texts of one proof, merged: Own10. -/
import Derived.Test.YtpjbncbmdfmlpaaMqK
import Derived.Test.YtpjbncbmdfmlpaaMqO
import Derived.Test.YtpjbncbmdfmlpaaMqP
namespace Go.Proofs.Ytpjbncbmdfmlpaa
open Go.RowKit Go.BigFrame
set_option maxRecDepth 100000
set_option linter.unusedVariables false
theorem own_cur {w : World} {base size n : Nat} {e : TypeId} {v : Value} {xs : List Value} (h : w.ownsRow base e size v n xs) (hn : 0 < n) : ∃ g cap cur, v = .slice (some ⟨g, 0, none⟩) n cap ∧ base ≤ g ∧ Blk w g e cur ∧ ∀ (j : Nat) (u : Value), xs[j]? = some u → cur[j]? = some u := by
  rcases h.2 with ⟨_, h0⟩ | ⟨g, cap, cur, hv, hb, hh, _, _, _, ht⟩
  · omega
  · refine ⟨g, cap, cur, hv, hb, hh, fun j u hu => ?_⟩
    rw [← ht, List.getElem?_take] at hu
    split at hu
    · simpa using hu
    · cases hu
theorem Sh.str {d : Nat} {w w' : World} (h : Sh d w w') {g : Nat} {t : TypeId} {cs : Array Value} (hb : Blk w g t cs) {i : Nat} {s : ByteArray} (hv : cs[i]? = some (.string s)) : ∃ cs' s', Blk w' g t cs' ∧ cs'[i]? = some (.string s') ∧ s'.size ≤ s.size + d := by
  obtain ⟨c', h1, h2⟩ := h g t cs hb
  obtain ⟨v', h3, k⟩ := h2 i _ hv
  rcases k with rfl | ⟨s1, s2, k1, rfl, hl⟩ | ⟨a, b, k1, _⟩
  · exact ⟨c', s, h1, h3, by omega⟩
  · cases k1
    exact ⟨c', s2, h1, h3, hl⟩
  · cases k1
theorem Sh.int {d : Nat} {w w' : World} (h : Sh d w w') {g : Nat} {t : TypeId} {cs : Array Value} (hb : Blk w g t cs) {i : Nat} {s : Int} (hv : cs[i]? = some (.int .i64 s)) : ∃ cs' s', Blk w' g t cs' ∧ cs'[i]? = some (.int .i64 s') := by
  obtain ⟨c', h1, h2⟩ := h g t cs hb
  obtain ⟨v', h3, k⟩ := h2 i _ hv
  rcases k with rfl | ⟨s1, s2, k1, _⟩ | ⟨a, b, _, rfl⟩
  · exact ⟨c', s, h1, h3⟩
  · cases k1
  · exact ⟨c', b, h1, h3⟩
theorem Sh.slice {d : Nat} {w w' : World} (h : Sh d w w') {g : Nat} {t : TypeId} {cs : Array Value} (hb : Blk w g t cs) {i : Nat} {A : Option Addr} {n c : Nat} (hv : cs[i]? = some (.slice A n c)) : w'.cell? ⟨g, i, none⟩ = some (.slice A n c) := by
  obtain ⟨c', h1, h2⟩ := h g t cs hb
  obtain ⟨v', h3, k⟩ := h2 i _ hv
  rcases k with rfl | ⟨s1, s2, k1, _⟩ | ⟨a, b, k1, _⟩
  · exact h1.cell' h3
  · cases k1
  · cases k1
/-- A row's cells of which one is a text, in a block of p's own. -/
def RowS (b1 gp Z : Nat) (w : World) (A : Option Addr) (n st o : Nat) : Prop := ∀ k, k < n → ∃ g t cur s, A = some ⟨g, 0, none⟩ ∧ b1 ≤ g ∧ g ≠ gp ∧ Blk w g t cur ∧ cur[k * st + o]? = some (.string s) ∧ s.size ≤ Z
def RowI (b1 gp : Nat) (w : World) (A : Option Addr) (n st o : Nat) : Prop := ∀ k, k < n → ∃ g t cur s, A = some ⟨g, 0, none⟩ ∧ b1 ≤ g ∧ g ≠ gp ∧ Blk w g t cur ∧ cur[k * st + o]? = some (.int .i64 s)
theorem RowS.sh {b1 gp Z d : Nat} {w w' : World} {A : Option Addr} {n st o : Nat} (h : RowS b1 gp Z w A n st o) (hs : Sh d w w') : RowS b1 gp (Z + d) w' A n st o := fun k hk => by
  obtain ⟨g, t, cur, s, h1, h2, h3, h4, h5, h6⟩ := h k hk
  obtain ⟨c', s', k1, k2, k3⟩ := hs.str h4 h5
  exact ⟨g, t, c', s', h1, h2, h3, k1, k2, by omega⟩
theorem RowI.sh {b1 gp d : Nat} {w w' : World} {A : Option Addr} {n st o : Nat} (h : RowI b1 gp w A n st o) (hs : Sh d w w') : RowI b1 gp w' A n st o := fun k hk => by
  obtain ⟨g, t, cur, s, h1, h2, h3, h4, h5⟩ := h k hk
  obtain ⟨c', s', k1, k2⟩ := hs.int h4 h5
  exact ⟨g, t, c', s', h1, h2, h3, k1, k2⟩
/-- p's own rows may be turned. -/
structure POwn (b1 gp : Nat) (w : World) (pv : Array Value) (C : Option Addr) (m x : Nat) (A : Option Addr) (na c : Nat) (B : Option Addr) (nb d : Nat) : Prop where
  bp : Blk w gp 45 pv
  c3 : pv[3]? = some (.slice C m x)
  c10 : pv[10]? = some (.slice A na c)
  c16 : pv[16]? = some (.slice B nb d)
  ch : RowS b1 gp 9000000000000000000 w C m 15 7
  rw_ : ∀ k, k < m → ∃ (g : Nat) (t : TypeId) (cur : Array Value) (E : Option Addr) (ne e : Nat), C = some ⟨g, 0, none⟩ ∧ Blk w g t cur ∧ cur[k * 15 + 5]? = some (.slice E ne e) ∧ RowS b1 gp 9000000000000000000 w E ne 2 1 ∧ ne ≤ 500
  lr : RowS b1 gp 9000000000000000000 w A na 2 0
  ie : RowI b1 gp w B nb 2 1
  zm : m ≤ 400 ∧ na ≤ 300000 ∧ nb ≤ 1000
/-- What the loops keep. -/
structure PKept (b1 gp d : Nat) (w w' : World) : Prop where
  sh : Sh d w w'
  fr : Fr (fun i => b1 ≤ i ∧ i ≠ gp) w w'
theorem PKept.refl (b1 gp : Nat) (w : World) : PKept b1 gp 0 w w := ⟨Sh.refl w, Fr.refl _ w⟩
theorem PKept.set_ {b1 gp d e : Nat} {w w' : World} (h : PKept b1 gp d w w') {g : Nat} {t : TypeId} {cs : Array Value} (hb : Blk w' g t cs) {i : Nat} {v v' : Value} (hv : cs[i]? = some v) (hk : KS e v v') (h1 : b1 ≤ g) (h2 : g ≠ gp) : PKept b1 gp (d + e) w (w'.setCell ⟨g, i, none⟩ v') :=
  ⟨h.sh.trans (Sh.set_ hb hv hk), h.fr.setCell (p := ⟨g, i, none⟩) (.inl ⟨h1, h2⟩) v'⟩
theorem ks_x (s : ByteArray) : KS 1 (.string s) (.string (s ++ ⟨#[120]⟩)) := .inr (.inl ⟨_, _, rfl, rfl, by rw [ByteArray.size_append]; exact Nat.le_refl _⟩)
theorem Blk.range7' {w : World} {g : Nat} {t : TypeId} {cs : Array Value} (h : Blk w g t cs) : w.rangeAt g 0 cs.toList := fun j v hv => by
  rw [Nat.zero_add]
  exact h.cell' (by simpa using hv)
def QOk (l : List Rc) (w : World) (qv : Array Value) : Prop :=
  (∃ leaf lv iv A c B d C x D y b, ofM l = some (leaf, lv, iv) ∧ qv = pgA 1 0 0 (.slice C l.length x) (.slice D 0 y) leaf lv (.slice A lv.rows.length c) iv (.slice B iv.ents.length d) ∧ PgIn b w l [] lv iv A c B d C x D y) ∨ (ofM l = none ∧ qv = pgZ)
def WOk (l : List Rc) (A : Option Addr) (n cap : Nat) (w : World) (wv : Array Value) : Prop :=
  (∃ leaf lv iv A3 c3 B3 d3, ofM l = some (leaf, lv, iv) ∧ wv = pgA 1 0 0 (.slice A n cap) (.slice none 0 0) leaf lv (.slice A3 lv.rows.length c3) iv (.slice B3 iv.ents.length d3) ∧ lv.Ok ∧ Reads w 2 A3 lv.rows.length (rwFlat lv.rows) ∧ VwIn w iv B3 d3) ∨ (ofM l = none ∧ wv = pgZ)
theorem qok_of {l : List Rc} {w w' : World} {e : Ending} (h : OfPostO 1 0 0 l [] w e w') : ∃ (qv : Array Value) (ev : Value), e = .returned (.tuple #[.agg qv, ev]) ∧ qv.size = 21 ∧ qv.all (·.oneCell') = true ∧ QOk l w' qv ∧ Fr none_ w w' := by
  rcases h with ⟨leaf, lv, iv, A, c, B, d, C, x, D, y, h1, h2, h3, h4⟩ | ⟨k, _, h1, h2, h4⟩
  · exact ⟨_, _, h2, rfl, by simp [Value.oneCell'], .inl ⟨leaf, lv, iv, A, c, B, d, C, x, D, y, _, h1, rfl, h3.in_⟩, h4⟩
  · exact ⟨_, _, h2, rfl, by simp [Value.oneCell'], .inr ⟨h1, rfl⟩, h4⟩
theorem wok_of {l : List Rc} {A : Option Addr} {n cap : Nat} {w w' : World} {e : Ending} (h : ROfPostB 1 0 0 (.slice A n cap) (.slice none 0 0) l w e w') : ∃ (wv : Array Value) (ev : Value), e = .returned (.tuple #[.agg wv, ev]) ∧ wv.size = 21 ∧ wv.all (·.oneCell') = true ∧ WOk l A n cap w' wv ∧ Fr none_ w w' := by
  rcases h with ⟨leaf, lv, iv, A3, c3, B3, d3, h1, h2, h3, h4, h5, h6⟩ | ⟨k, hk, h2, h4⟩
  · exact ⟨_, _, h2, rfl, by simp [Value.oneCell'], .inl ⟨leaf, lv, iv, A3, c3, B3, d3, h1, rfl, h3, h4, h5⟩, h6⟩
  · exact ⟨_, _, h2, rfl, by simp [Value.oneCell'], .inr ⟨hk.1, rfl⟩, h4⟩
theorem same_both {L : List Ch} {A : Option Addr} {n cap : Nat} {qv wv : Array Value} {w8 w9 w' : World} (hq : QOk (L.map (·.R)) w8 qv) (hw : WOk (L.map (·.R)) A n cap w9 wv) (hf8 : Fr none_ w8 w') (hf9 : Fr none_ w9 w') (hc : ChReads w' A n L) (hln : L.length = n) (hn : n ≤ 400) (hz : ∀ C ∈ L, C.R.rows.length ≤ 1000 ∧ C.R.ents.length ≤ 1000) :
    Calls Try.prog 26 #[.agg qv, .agg wv] w' fun e w2 => e = .returned (.bool true) ∧ Fr none_ w' w2 := by
  rcases hq with ⟨leaf, lv, iv, A1, c1, B1, d1, C1, x1, D1, y1, b, h1, rfl, hp⟩ | ⟨h1, rfl⟩
  · rcases hw with ⟨leaf2, lv2, iv2, A3, c3, B3, d3, k1, rfl, ko, k3, k4⟩ | ⟨k1, _⟩
    · rw [h1] at k1
      simp only [Option.some.injEq, Prod.mk.injEq] at k1
      obtain ⟨rfl, rfl, rfl⟩ := k1
      obtain ⟨Cs, m1, m2, m3⟩ := hp.ch
      rw [List.length_map, hln] at m2 ⊢
      have hcl : Cs.length = n := by have := congrArg List.length m1; simpa [hln] using this
      refine same10_ok 1 0 0 leaf lv iv [] n Cs L C1 A D1 none A1 A3 B1 B3 x1 cap y1 0 c1 c3 d1 d3 w' (by omega) ⟨(chReads_own m2 hcl (fun C hC => (m3 C hC).ok)).keep hf8, hc, m1.symm, fun D hD => ?_⟩ ⟨(Reads.of_own hp.rf).none_fr hf8, Reads.nil_, (Reads.of_own hp.lv.own).none_fr hf8, k3.none_fr hf9, hp.iv.rd.none_fr hf8, k4.rd.none_fr hf9, by simp, hp.lv.ok.rows.1, by have := hp.iv.ok.ents.1; omega⟩
      have hR : D.R ∈ L.map (·.R) := by rw [← m1]; exact List.mem_map.2 ⟨D, hD, rfl⟩
      obtain ⟨E, hE, e⟩ := List.mem_map.1 hR
      have e' : E.R = D.R := e
      rw [← e']
      exact hz E hE
    · rw [h1] at k1; cases k1
  · rcases hw with ⟨leaf2, lv2, iv2, A3, c3, B3, d3, k1, _⟩ | ⟨k1, rfl⟩
    · rw [h1] at k1; cases k1
    · exact same10_ok 0 0 0 false Lw.zero Vw.zero [] 0 [] [] none none none none none none none none 0 0 0 0 0 0 0 0 w' (by omega) ⟨⟨rfl, fun h => absurd h (Nat.lt_irrefl 0)⟩, ⟨rfl, fun h => absurd h (Nat.lt_irrefl 0)⟩, rfl, fun D hD => by cases hD⟩ ⟨Reads.nil_, Reads.nil_, Reads.nil_, Reads.nil_, Reads.nil_, Reads.nil_, by simp, Nat.zero_le _, Nat.zero_le _⟩
theorem ofO_any {n : Int} {l : List Rc} {w w' : World} {e : Ending} (h : OfPostO n 0 0 l [] w e w') : ∃ (n1 : Int) (Lr : List Rc) (leaf : Bool) (lv : Lw) (iv : Vw) (A : Option Addr) (c : Nat) (B : Option Addr) (d : Nat) (C : Option Addr) (x : Nat) (D : Option Addr) (y : Nat) (ev : Value), e = .returned (.tuple #[.agg (pgA n1 0 0 (.slice C Lr.length x) (.slice D 0 y) leaf lv (.slice A lv.rows.length c) iv (.slice B iv.ents.length d)), ev]) ∧ PgInO w.heap.size w' Lr [] lv iv A c B d C x D y ∧ (Lr = l ∨ Lr = []) ∧ Fr none_ w w' := by
  rcases h with ⟨leaf, lv, iv, A, c, B, d, C, x, D, y, _, h2, h3, h4⟩ | ⟨k, _, _, h2, h4⟩
  · exact ⟨n, l, leaf, lv, iv, A, c, B, d, C, x, D, y, _, h2, h3, .inl rfl, h4⟩
  · exact ⟨0, [], false, Lw.zero, Vw.zero, none, 0, none, 0, none, 0, none, 0, _, h2, ⟨LwIn.zero _ _, VwO.zero _ _, ⟨[], rfl, World.ownsRow_nil _ _ _ _, fun E hE => by cases hE⟩, World.ownsRow_nil _ _ _ _⟩, .inr rfl, h4⟩
theorem pown_of {b1 : Nat} {w5 w6 : World} {Lr : List Rc} {lv : Lw} {iv : Vw} {A B C D : Option Addr} {c d x y : Nat} {n1 : Int} {leaf : Bool} {pv : Array Value} (h : PgInO b1 w5 Lr [] lv iv A c B d C x D y) (hb : Blk w6 w5.heap.size 45 pv) (hf : Fr none_ w5 w6)
    (hpv : pv = pgA n1 0 0 (.slice C Lr.length x) (.slice D 0 y) leaf lv (.slice A lv.rows.length c) iv (.slice B iv.ents.length d)) (hz : Lr.length ≤ 400) (hzr : ∀ R ∈ Lr, R.rows.length ≤ 500 ∧ RwsOk R.rows ∧ SzOk R.key) : POwn b1 w5.heap.size w6 pv C Lr.length x A lv.rows.length c B iv.ents.length d := by
  obtain ⟨Cs, h1, h2, h3⟩ := h.ch
  have hlc : Cs.length = Lr.length := by rw [← h1, List.length_map]
  refine ⟨hb, by rw [hpv]; rfl, by rw [hpv]; rfl, by rw [hpv]; rfl, fun k hk => ?_, fun k hk => ?_, fun k hk => ?_, fun k hk => ?_, hz, h.lv.ok.rows.1, h.iv.vin.ok.ents.1⟩
  · obtain ⟨g, cap, cur, hv, hbg, hB, hc⟩ := own_cur h2 (by omega)
    obtain ⟨E, hE⟩ : ∃ E, Cs[k]? = some E := ⟨_, List.getElem?_eq_getElem (by omega)⟩
    injection hv with e1 _ _
    exact ⟨g, _, cur, E.R.key, e1, hbg, Nat.ne_of_lt hB.lt, hB.fr hf id, hc _ _ (recFlat_get Cs k E hE 7 _ rfl), (hzr E.R (by rw [← h1]; exact List.mem_map.2 ⟨E, List.mem_of_getElem? hE, rfl⟩)).2.2⟩
  · obtain ⟨g, cap, cur, hv, hbg, hB, hc⟩ := own_cur h2 (by omega)
    obtain ⟨E, hE⟩ : ∃ E, Cs[k]? = some E := ⟨_, List.getElem?_eq_getElem (by omega)⟩
    injection hv with e1 _ _
    have hO := (h3 E (List.mem_of_getElem? hE)).own.r
    refine ⟨g, _, cur, E.A, E.R.rows.length, E.c, e1, hB.fr hf id, hc _ _ (recFlat_get Cs k E hE 5 _ rfl), fun j hj => ?_, (hzr E.R (by rw [← h1]; exact List.mem_map.2 ⟨E, List.mem_of_getElem? hE, rfl⟩)).1⟩
    obtain ⟨g2, cap2, cur2, hv2, hbg2, hB2, hc2⟩ := own_cur hO (by omega)
    obtain ⟨p, hp⟩ : ∃ p, E.R.rows[j]? = some p := ⟨_, List.getElem?_eq_getElem hj⟩
    injection hv2 with e2 _ _
    exact ⟨g2, _, cur2, p.2, e2, hbg2, Nat.ne_of_lt hB2.lt, hB2.fr hf id, hc2 _ _ (rwFlat_get _ _ _ hp).2, ((hzr E.R (by rw [← h1]; exact List.mem_map.2 ⟨E, List.mem_of_getElem? hE, rfl⟩)).2.1.2 p (List.mem_of_getElem? hp)).2⟩
  · obtain ⟨g2, cap2, cur2, hv2, hbg2, hB2, hc2⟩ := own_cur h.lv.own (by omega)
    obtain ⟨p, hp⟩ : ∃ p, lv.rows[k]? = some p := ⟨_, List.getElem?_eq_getElem hk⟩
    injection hv2 with e2 _ _
    exact ⟨g2, _, cur2, p.1, e2, hbg2, Nat.ne_of_lt hB2.lt, hB2.fr hf id, hc2 _ _ (rwFlat_get _ _ _ hp).1, (h.lv.ok.rows.2 p (List.mem_of_getElem? hp)).1⟩
  · obtain ⟨g2, cap2, cur2, hv2, hbg2, hB2, hc2⟩ := own_cur h.iv.own (by omega)
    obtain ⟨p, hp⟩ : ∃ p, iv.ents[k]? = some p := ⟨_, List.getElem?_eq_getElem hk⟩
    injection hv2 with e2 _ _
    exact ⟨g2, _, cur2, p.2, e2, hbg2, Nat.ne_of_lt hB2.lt, hB2.fr hf id, hc2 _ _ (etFlat_get _ _ _ hp).2⟩
set_option maxHeartbeats 16000000 in
theorem own10_law (A : Option Addr) (n cap : Nat) (L : List Ch) (w : World) (h : InReads w A n L) (hw : RwIn L) (hcp : RwCap L) (hm : n ≤ maxLen) : Calls Try.prog 4 #[.slice A n cap] w (RetQ (.bool true) w) := by
  have H := hid_ h
  have HW := hid_ hw
  have HCP := hid_ hcp
  have hln := h.1
  obtain ⟨i0, hi0, hz0, hs0, hb0⟩ := info_parts record_info
  have Hi := hid_ (And.intro hi0 (And.intro hz0 (And.intro hs0 hb0)))
  clear hi0 hz0 hs0 hb0 h hw hcp
  go_enter Try.func4, Try.ntmps4
  go_wp2_with fail
  refine (few10_ok A n cap L w H.out HW.out hm).mono ?_
  rintro e w1 ⟨b, rfl, hb, hf⟩
  have G0 := hid_ hb
  have F1 := hid_ hf
  clear hb hf
  cases b with
  | false =>
    go_wp2_with fail
    refine (awake10_ok w1).mono ?_
    rintro e w2 ⟨rfl, hf⟩
    go_wp2_with fail
    go_ret
    exact ⟨rfl, F1.out.then_none hf⟩
  | true =>
  replace H := hid_ (H.out.keep F1.out)
  have HF := hid_ (G0.out rfl)
  have hn40 : n ≤ 40 := (G0.out rfl).2.2
  have HCR := hid_ (H.out.few (few_ents HF.out.2.1))
  have HRW := hid_ (few_rows HF.out.1 HW.out)
  have HEN := hid_ (few_ents HF.out.2.1)
  clear G0
  go_wp2_with fail
  go_loopw [3, 22] (fun v i wr => ∃ (k : Nat) (Cs : List Ch), k ≤ n ∧ i = .int .i64 k ∧ Cs.length = k ∧ Cs.map (·.R) = (L.take k).map (·.R) ∧ wr.ownsRow w1.heap.size 58 15 v k (recFlat Cs) ∧ (∀ C ∈ Cs, ChOwB w1.heap.size wr C) ∧ Fr none_ w1 wr) (fun _ i _ => n - (intOf i).toNat)
  case atStart => exact ⟨0, [], Nat.zero_le _, rfl, rfl, rfl, World.ownsRow_nil _ _ _ _, fun C hC => by simp at hC, Fr.refl _ _⟩
  case round =>
    obtain ⟨k, Cs, hk, rfl, hcl, hcm, hown, hcs, hF⟩ := hrel
    obtain ⟨oA, oc, rfl⟩ := hown.shape
    have HCL := hid_ hcl
    have HCM := hid_ hcm
    have O := hid_ hown
    have HCS := hid_ hcs
    have F := hid_ hF
    clear hcl hcm hown hcs hF
    have hi0 : (0 : Int) ≤ (k : Int) := Int.natCast_nonneg _
    by_cases hlt : k < n
    · obtain ⟨C, hC⟩ : ∃ C, L[k]? = some C := ⟨_, List.getElem?_eq_getElem (by omega)⟩
      obtain ⟨b, off, rfl, hb, hR, hO⟩ := (HCR.out.keep F.out).at_ hC
      have hi1 : (k : Int) < (n : Int) := by omega
      have HR := hid_ hR
      have HO := hid_ hO
      have HC := hid_ hC
      have hrow := (HRW.out C (List.mem_of_getElem? hC)).2.2
      have hent := hO.ents.1
      clear hR hO hC
      go_upto_region 7 with (first | (refine wpList_load_mid rfl 58 (.tmp 24) rfl b (off + k * 15) rfl (recL C) _ HR.out Try.underlying58 rfl rec_size8 ?_) | (refine wpList_store_mid rfl 58 (.tmp 5) (.tmp 25) rfl wr.heap.size 0 (recL C).toArray rfl rfl (new_there wr _ recZ8) rec_size8 (rec_one C) ?_; obtain ⟨wa, hwa⟩ : ∃ wa, wa = (wr.alloc (.cells recZ8 58)).setCells wr.heap.size 0 (recL C) := ⟨_, rfl⟩; change wpList _ _ _ _ _ ((wr.alloc (.cells recZ8 58)).setCells wr.heap.size 0 (recL C)); rw [← hwa]; have P1 : Hid (Blk wa wr.heap.size 58 (recL C).toArray ∧ Fr none_ wr wa) := hid_ (by rw [hwa]; exact new_copy wr _ recZ8 _ rfl); clear hwa))
      have hf1 := P1.out.2.size
      have g0 : wa.cell? ⟨wr.heap.size, 0, none⟩ = some (.int .i64 C.R.kind) := P1.out.1.cell' rfl
      have g1 : wa.cell? ⟨wr.heap.size, 1, none⟩ = some (.string C.R.low) := P1.out.1.cell' rfl
      have g2 : wa.cell? ⟨wr.heap.size, 2, none⟩ = some (.string C.R.high) := P1.out.1.cell' rfl
      have g3 : wa.cell? ⟨wr.heap.size, 3, none⟩ = some (.bool C.R.unb) := P1.out.1.cell' rfl
      have g4 : wa.cell? ⟨wr.heap.size, 4, none⟩ = some (.int .i64 C.R.right) := P1.out.1.cell' rfl
      have g5 : wa.cell? ⟨wr.heap.size, 5, none⟩ = some (.slice C.A C.R.rows.length C.c) := P1.out.1.cell' rfl
      have g6 : wa.cell? ⟨wr.heap.size, 6, none⟩ = some (.slice C.B C.R.ents.length C.d) := P1.out.1.cell' rfl
      have g7 : wa.cell? ⟨wr.heap.size, 7, none⟩ = some (.string C.R.key) := P1.out.1.cell' rfl
      have g8 : wa.cell? ⟨wr.heap.size, 8, none⟩ = some (.string C.R.val) := P1.out.1.cell' rfl
      have g9 : wa.cell? ⟨wr.heap.size, 9, none⟩ = some (.int .i64 C.R.page) := P1.out.1.cell' rfl
      have g10 : wa.cell? ⟨wr.heap.size, 10, none⟩ = some (.int .i64 C.R.hpage) := P1.out.1.cell' rfl
      have g11 : wa.cell? ⟨wr.heap.size, 11, none⟩ = some (.int .i64 C.R.hleft) := P1.out.1.cell' rfl
      have g12 : wa.cell? ⟨wr.heap.size, 12, none⟩ = some (.string C.R.hkey) := P1.out.1.cell' rfl
      have g13 : wa.cell? ⟨wr.heap.size, 13, none⟩ = some (.int .i64 C.R.nslot) := P1.out.1.cell' rfl
      have g14 : wa.cell? ⟨wr.heap.size, 14, none⟩ = some (.int .i64 C.R.ngen) := P1.out.1.cell' rfl
      go_wp2_with fail
      refine (clone_big C.R C.A C.c C.B C.d _ (HO.out.rd.keep P1.out.2) (by omega) hent).mono ?_
      rintro e w2 ⟨A1, c1, B1, d1, rfl, hro, hf2⟩
      have RO := hid_ (hro.base (show w1.heap.size ≤ wa.heap.size by have := F.out.size; have := P1.out.2.size; omega))
      have F2 := hid_ (P1.out.2.then_none hf2)
      have hs2 := (F.out.then_none F2.out).size
      have O2 := hid_ (own_none O.out F2.out)
      clear hro hf2 g0 g1 g2 g3 g4 g5 g6 g7 g8 g9 g10 g11 g12 g13 g14
      obtain ⟨C', hC'⟩ : ∃ C' : Ch, C' = ⟨C.R, A1, c1, B1, d1⟩ := ⟨_, rfl⟩
      have HC' := hid_ hC'
      clear hC'
      go_wp2_with (at_builtin; refine wpList_append_any _ rfl (.tmp 26) (.tmp 29) 34 rfl w1.heap.size 58 i0 _ 15 192 Try.underlying34 Hi.out.1 Hi.out.2.1 Hi.out.2.2.1 Hi.out.2.2.2 rfl (by omega) (.slice oA k oc) k (recFlat Cs) rfl (O2.out.alloc _) (some ⟨w2.heap.size, 0, none⟩) 1 1 (recL ⟨C.R, A1, c1, B1, d1⟩) rfl (reads_new w2 _ (recL ⟨C.R, A1, c1, B1, d1⟩) _ rfl) (by simp [Value.oneCell']) (by simp only [maxLen]; omega) (by omega) (by simp; omega) ?_; intro A3 c3 w3 hown3 hgr3)
      have REL : Cs.length + 1 = k + 1 ∧ (Cs ++ [C']).map (·.R) = (L.take (k + 1)).map (·.R) ∧ w3.ownsRow w1.heap.size 58 15 (.slice A3 (k + 1) c3) (k + 1) (recFlat (Cs ++ [C'])) ∧ (∀ X ∈ Cs ++ [C'], ChOwB w1.heap.size w3 X) ∧ Fr none_ w1 w3 := by
        have ho2 := O2.out.alloc (.cells (recL ⟨C.R, A1, c1, B1, d1⟩).toArray 58)
        refine ⟨by rw [HCL.out], ?_, ?_, fun X hX => ?_, ((F.out.then_none F2.out).alloc _).grown hgr3 (fun b hb => .inr (O2.out.lt b hb).1)⟩
        · rw [List.take_add_one, HC.out, List.map_append, List.map_append, HCM.out, HC'.out]
          rfl
        · rw [recFlat_app, HC'.out]
          have : recFlat [(⟨C.R, A1, c1, B1, d1⟩ : Ch)] = recL ⟨C.R, A1, c1, B1, d1⟩ := by simp [recFlat]
          rw [this]
          exact hown3
        · rcases List.mem_append.1 hX with hX | hX
          · exact (((HCS.out X hX).keep F2.out).keep ((Fr.refl none_ w2).alloc _)).beside ho2 hgr3
          · obtain rfl : X = C' := by simpa using hX
            refine ChOwB.beside (ChOwB.keep ?_ ((Fr.refl none_ w2).alloc _)) ho2 hgr3
            rw [HC'.out]
            exact ⟨RO.out, HO.out.low, HO.out.high, HO.out.key, HO.out.hkey, HO.out.ents⟩
      have HREL := hid_ REL
      clear REL hown3 hgr3
      go_wp2
      go_roundw
      case rel => exact ⟨k + 1, Cs ++ [C'], by omega, by go_num, by rw [List.length_append]; exact HREL.out.1, HREL.out.2.1, HREL.out.2.2.1, HREL.out.2.2.2.1, HREL.out.2.2.2.2⟩
      case measure => simp [intOf]; omega
    · obtain rfl : k = n := by omega
      have hcm := HCM.out
      rw [List.take_of_length_le (by omega)] at hcm
      have HCM' := hid_ hcm
      have hlc := HCL.out
      clear hcm
      have HCO : Hid (ChReads wr oA k Cs) := hid_ (chReads_own O.out hlc (fun C hC => (HCS.out C hC).own0.ok))
      have HRC : Hid (RwOkL Cs) := hid_ (fun C hC => by
        have hR : C.R ∈ L.map (·.R) := by rw [← HCM'.out]; exact List.mem_map.2 ⟨C, hC, rfl⟩
        obtain ⟨E, hE, e⟩ := List.mem_map.1 hR
        have e' : E.R = C.R := e
        rw [← e']
        exact HRW.out E hE)
      have HEC : Hid (∀ C ∈ Cs, C.R.ents.length ≤ 500) := hid_ (fun C hC => by
        have hR : C.R ∈ L.map (·.R) := by rw [← HCM'.out]; exact List.mem_map.2 ⟨C, hC, rfl⟩
        obtain ⟨E, hE, e⟩ := List.mem_map.1 hR
        have e' : E.R = C.R := e
        rw [← e']
        have := HEN.out E hE
        omega)
      clear HCM HCL
      go_wp2_with fail
      refine (of_okO 1 0 0 oA k oc Cs [] none 0 wr HCO.out (by omega) HRC.out HEC.out Reads.nil_ (by simp)).mono ?_
      intro e w5 hpost
      obtain ⟨n1, Lr, leaf, lv, iv, A1, c1, B1, d1, C1, x1, D1, y1, ev, rfl, hpg, hlr, hf5⟩ := ofO_any hpost
      clear hpost
      have PG := hid_ hpg
      have hsz5 := hf5.size
      have F5 := hid_ hf5
      have HLR : Hid (Lr.length ≤ 400 ∧ ∀ R ∈ Lr, R.rows.length ≤ 500 ∧ RwsOk R.rows ∧ SzOk R.key) := hid_ (by
        rcases hlr with rfl | rfl
        · refine ⟨by rw [List.length_map]; omega, fun R hR => ?_⟩
          obtain ⟨E, hE, rfl⟩ := List.mem_map.1 hR
          exact ⟨(HRC.out E hE).2.2, (HRC.out E hE).2.1, (HCS.out E hE).key⟩
        · exact ⟨by simp, fun R hR => by cases hR⟩)
      clear hpg hf5 hlr
      obtain ⟨pv, hpv⟩ : ∃ pv, pv = pgA n1 0 0 (.slice C1 Lr.length x1) (.slice D1 0 y1) leaf lv (.slice A1 lv.rows.length c1) iv (.slice B1 iv.ents.length d1) := ⟨_, rfl⟩
      have hpo : pv.all (·.oneCell') = true := by rw [hpv]; simp [Value.oneCell']
      have hps : pv.size = 21 := by rw [hpv]; rfl
      rw [← hpv]
      have HPV := hid_ hpv
      clear hpv
      go_upto_region 10 with (refine wpList_store_mid rfl 45 (.tmp 6) (.tmp 36) rfl w5.heap.size 0 pv rfl rfl (by rw [hps]; exact new_there w5 _ pgZ) (by rw [hps]; exact page_size) hpo ?_; obtain ⟨w6, hw6⟩ : ∃ z, z = (w5.alloc (.cells pgZ 45)).setCells w5.heap.size 0 pv.toList := ⟨_, rfl⟩; change wpList _ _ _ _ _ ((w5.alloc (.cells pgZ 45)).setCells w5.heap.size 0 pv.toList); rw [← hw6]; have P6 : Hid (Blk w6 w5.heap.size 45 pv ∧ Fr none_ w5 w6) := hid_ (by rw [hw6]; have h9 := new_copy w5 45 pgZ pv.toList (by rw [Array.length_toList, hps]; rfl); simpa using h9); clear hw6)
      have F6 := hid_ (F5.out.then_none P6.out.2)
      obtain ⟨gp, hgp⟩ : ∃ g, g = w5.heap.size := ⟨_, rfl⟩
      obtain ⟨b1, hb1⟩ : ∃ b, b = wr.heap.size := ⟨_, rfl⟩
      have PO : Hid (POwn b1 gp w6 pv C1 Lr.length x1 A1 lv.rows.length c1 B1 iv.ents.length d1) := hid_ (by
        rw [hb1, hgp]
        exact pown_of PG.out P6.out.1 P6.out.2 HPV.out HLR.out.1 HLR.out.2)
      rw [← hgp]
      have hbg : b1 ≤ gp := by omega
      clear PG P6 HPV hpo hps hgp
      have p3 : w6.cell? ⟨gp, 3, none⟩ = some (.slice C1 Lr.length x1) := PO.out.bp.cell' PO.out.c3
      go_wp2_with fail
      have hLm : Lr.length ≤ 400 := PO.out.zm.1
      clear p3
      go_loopw [41] (fun i wy => ∃ (q d : Nat), q ≤ Lr.length ∧ i = .int .i64 q ∧ PKept b1 gp d w6 wy ∧ d ≤ q * 1000) (fun i _ => Lr.length - (intOf i).toNat)
      case atStart => exact ⟨0, 0, Nat.zero_le _, rfl, PKept.refl _ _ _, Nat.zero_le _⟩
      case round =>
        obtain ⟨q, dq, hq, rfl, hkp, hdq⟩ := hrel
        obtain ⟨wyq, rfl⟩ : ∃ z : World, z = wr := ⟨_, rfl⟩
        have Kq := hid_ hkp
        clear hkp
        have hi0q : (0 : Int) ≤ (q : Int) := Int.natCast_nonneg _
        by_cases hltq : q < Lr.length
        · skip
          obtain ⟨g, t, cur, s7, hC, hbg1, hgn, hB, hv, hz7⟩ := PO.out.ch.sh Kq.out.sh q hltq
          have pq3 : wyq.cell? ⟨gp, 3, none⟩ = some (.slice (some ⟨g, 0, none⟩) Lr.length x1) := by rw [← hC]; exact (PO.out.bp.fr Kq.out.fr (fun e => e.2 rfl)).cell' PO.out.c3
          have c7 : wyq.cell? ⟨g, q * 15 + 7, none⟩ = some (.string s7) := hB.cell' hv
          have y7 := hB.frozen (q * 15 + 7)
          have hi1 : (q : Int) < (Lr.length : Int) := by omega
          have HB := hid_ (And.intro hB hv)
          have HC := hid_ hC
          have hsz7 : ¬ s7.size + 1 > 9223372036854775807 := by omega
          clear hB hv hC hz7
          go_upto_region 14 with fail
          obtain ⟨wz, hwz⟩ : ∃ z, z = wyq.setCell ⟨g, q * 15 + 7, none⟩ (.string (s7 ++ ⟨#[120]⟩)) := ⟨_, rfl⟩
          have KZ : Hid (PKept b1 gp (dq + 1) w6 wz) := hid_ (by rw [hwz]; exact Kq.out.set_ HB.out.1 HB.out.2 (ks_x _) hbg1 hgn)
          change Code.wp _ _ _ _ (wyq.setCell ⟨g, q * 15 + 7, none⟩ (.string (s7 ++ ⟨#[120]⟩)))
          rw [← hwz]
          clear hwz c7 y7 pq3 Kq
          obtain ⟨g', t', cur', E, ne, ec, hC', hB', hv', hR', hne⟩ := PO.out.rw_ q hltq
          obtain rfl : g' = g := by
            have := hC'.symm.trans HC.out
            injection this with this
            injection this
          have RS := hid_ hR'
          have c5 : wz.cell? ⟨g', q * 15 + 5, none⟩ = some (.slice E ne ec) := KZ.out.sh.slice hB' hv'
          have HB5 := hid_ (And.intro hB' hv')
          have pq3 : wz.cell? ⟨gp, 3, none⟩ = some (.slice (some ⟨g', 0, none⟩) Lr.length x1) := by rw [← HC.out]; exact (PO.out.bp.fr KZ.out.fr (fun e => e.2 rfl)).cell' PO.out.c3
          clear hB' hv' hC' hR' HB
          go_wp2_with fail
          clear c5 pq3
          go_loopw [60] (fun i wy => ∃ (q d : Nat), q ≤ ne ∧ i = .int .i64 q ∧ PKept b1 gp d w6 wy ∧ d ≤ dq + 1 + q) (fun i _ => ne - (intOf i).toNat)
          case atStart => exact ⟨0, dq + 1, Nat.zero_le _, rfl, KZ.out, Nat.le_refl _⟩
          case round =>
            obtain ⟨r, dr, hr, rfl, hkp, hdr⟩ := hrel
            obtain ⟨wyr, rfl⟩ : ∃ z : World, z = wr := ⟨_, rfl⟩
            have Kr := hid_ hkp
            clear hkp
            have hi0r : (0 : Int) ≤ (r : Int) := Int.natCast_nonneg _
            by_cases hltr : r < ne
            · skip
              obtain ⟨gr, tr, curr, s1, hE, hbr1, hgrn, hBr, hvr, hz1⟩ := RS.out.sh Kr.out.sh r hltr
              have pq3 : wyr.cell? ⟨gp, 3, none⟩ = some (.slice (some ⟨g', 0, none⟩) Lr.length x1) := by rw [← HC.out]; exact (PO.out.bp.fr Kr.out.fr (fun e => e.2 rfl)).cell' PO.out.c3
              have c5 : wyr.cell? ⟨g', q * 15 + 5, none⟩ = some (.slice (some ⟨gr, 0, none⟩) ne ec) := by rw [← hE]; exact Kr.out.sh.slice HB5.out.1 HB5.out.2
              have c1 : wyr.cell? ⟨gr, r * 2 + 1, none⟩ = some (.string s1) := hBr.cell' hvr
              have y1 := hBr.frozen (r * 2 + 1)
              have hi2 : (r : Int) < (ne : Int) := by omega
              have HBR := hid_ (And.intro hBr hvr)
              have hsz1 : ¬ s1.size + 1 > 9223372036854775807 := by omega
              clear hBr hvr hE hz1
              go_upto_region 18 with fail
              obtain ⟨wv, hwv⟩ : ∃ z, z = wyr.setCell ⟨gr, r * 2 + 1, none⟩ (.string (s1 ++ ⟨#[120]⟩)) := ⟨_, rfl⟩
              have KV : Hid (PKept b1 gp (dr + 1) w6 wv) := hid_ (by rw [hwv]; exact Kr.out.set_ HBR.out.1 HBR.out.2 (ks_x _) hbr1 hgrn)
              change Code.wp _ _ _ _ (wyr.setCell ⟨gr, r * 2 + 1, none⟩ (.string (s1 ++ ⟨#[120]⟩)))
              rw [← hwv]
              clear hwv c1 y1 pq3 c5 Kr HBR
              go_wp2_with fail
              go_roundw
              case rel => exact ⟨r + 1, dr + 1, by omega, by go_num, KV.out, by omega⟩
              case measure => simp [intOf]; omega
            · obtain rfl : r = ne := by omega
              go_wp2_with fail
              go_roundw
              case rel => exact ⟨q + 1, dr, by omega, by go_num, Kr.out, by omega⟩
              case measure => simp [intOf]; omega
        · obtain rfl : q = Lr.length := by omega
          have pq10 : wyq.cell? ⟨gp, 10, none⟩ = some (.slice A1 lv.rows.length c1) := (PO.out.bp.fr Kq.out.fr (fun e => e.2 rfl)).cell' PO.out.c10
          have hzl : lv.rows.length ≤ 300000 := PO.out.zm.2.1
          have hdq' : dq ≤ 400000 := by omega
          go_wp2_with fail
          clear pq10
          go_loopw [82] (fun i wy => ∃ (q d : Nat), q ≤ lv.rows.length ∧ i = .int .i64 q ∧ PKept b1 gp d w6 wy ∧ d ≤ dq + q) (fun i _ => lv.rows.length - (intOf i).toNat)
          case atStart => exact ⟨0, dq, Nat.zero_le _, rfl, Kq.out, Nat.le_refl _⟩
          case round =>
            obtain ⟨u, du, hu, rfl, hkp, hdu⟩ := hrel
            obtain ⟨wyu, rfl⟩ : ∃ z : World, z = wr := ⟨_, rfl⟩
            have Ku := hid_ hkp
            clear hkp
            have hi0u : (0 : Int) ≤ (u : Int) := Int.natCast_nonneg _
            by_cases hltu : u < lv.rows.length
            · skip
              obtain ⟨g, t, cur, s0, hA, hbg1, hgn, hB, hv, hz0⟩ := PO.out.lr.sh Ku.out.sh u hltu
              rw [Nat.add_zero] at hv
              have pq10 : wyu.cell? ⟨gp, 10, none⟩ = some (.slice (some ⟨g, 0, none⟩) lv.rows.length c1) := by rw [← hA]; exact (PO.out.bp.fr Ku.out.fr (fun e => e.2 rfl)).cell' PO.out.c10
              have c0 : wyu.cell? ⟨g, u * 2, none⟩ = some (.string s0) := hB.cell' hv
              have y0 := hB.frozen (u * 2)
              have hi1 : (u : Int) < (lv.rows.length : Int) := by omega
              have HB := hid_ (And.intro hB hv)
              have hsz0 : ¬ s0.size + 1 > 9223372036854775807 := by omega
              clear hB hv hA hz0
              go_upto_region 24 with fail
              obtain ⟨wz, hwz⟩ : ∃ z, z = wyu.setCell ⟨g, u * 2, none⟩ (.string (s0 ++ ⟨#[120]⟩)) := ⟨_, rfl⟩
              have KZ : Hid (PKept b1 gp (du + 1) w6 wz) := hid_ (by rw [hwz]; exact Ku.out.set_ HB.out.1 HB.out.2 (ks_x _) hbg1 hgn)
              change Code.wp _ _ _ _ (wyu.setCell ⟨g, u * 2, none⟩ (.string (s0 ++ ⟨#[120]⟩)))
              rw [← hwz]
              clear hwz c0 y0 pq10 Ku HB
              go_wp2_with fail
              go_roundw
              case rel => exact ⟨u + 1, du + 1, by omega, by go_num, KZ.out, by omega⟩
              case measure => simp [intOf]; omega
            · obtain rfl : u = lv.rows.length := by omega
              have pq16 : wyu.cell? ⟨gp, 16, none⟩ = some (.slice B1 iv.ents.length d1) := (PO.out.bp.fr Ku.out.fr (fun e => e.2 rfl)).cell' PO.out.c16
              have hzi : iv.ents.length ≤ 1000 := PO.out.zm.2.2
              go_wp2_with fail
              clear pq16
              go_loopw [100] (fun i wy => ∃ (q d : Nat), q ≤ iv.ents.length ∧ i = .int .i64 q ∧ PKept b1 gp d w6 wy ∧ d ≤ du) (fun i _ => iv.ents.length - (intOf i).toNat)
              case atStart => exact ⟨0, du, Nat.zero_le _, rfl, Ku.out, Nat.le_refl _⟩
              case round =>
                obtain ⟨v, dv, hv, rfl, hkp, hdv⟩ := hrel
                obtain ⟨wyv, rfl⟩ : ∃ z : World, z = wr := ⟨_, rfl⟩
                have Kv := hid_ hkp
                clear hkp
                have hi0v : (0 : Int) ≤ (v : Int) := Int.natCast_nonneg _
                by_cases hltv : v < iv.ents.length
                · skip
                  obtain ⟨g, t, cur, s0, hA, hbg1, hgn, hB, hv⟩ := PO.out.ie.sh Kv.out.sh v hltv
                  have pq16 : wyv.cell? ⟨gp, 16, none⟩ = some (.slice (some ⟨g, 0, none⟩) iv.ents.length d1) := by rw [← hA]; exact (PO.out.bp.fr Kv.out.fr (fun e => e.2 rfl)).cell' PO.out.c16
                  have c1' : wyv.cell? ⟨g, v * 2 + 1, none⟩ = some (.int .i64 s0) := hB.cell' hv
                  have y0 := hB.frozen (v * 2 + 1)
                  have hi1 : (v : Int) < (iv.ents.length : Int) := by omega
                  have HB := hid_ (And.intro hB hv)
                  clear hB hv hA
                  go_upto_region 29 with fail
                  obtain ⟨wz, hwz⟩ : ∃ z, z = wyv.setCell ⟨g, v * 2 + 1, none⟩ (.int .i64 (wrap64 (s0 + 1))) := ⟨_, rfl⟩
                  have KZ : Hid (PKept b1 gp (dv + 0) w6 wz) := hid_ (by rw [hwz]; exact Kv.out.set_ HB.out.1 HB.out.2 (.inr (.inr ⟨_, _, rfl, rfl⟩)) hbg1 hgn)
                  change Code.wp _ _ _ _ (wyv.setCell ⟨g, v * 2 + 1, none⟩ (.int .i64 (wrap64 (s0 + 1))))
                  rw [← hwz]
                  clear hwz c1' y0 pq16 Kv HB
                  go_wp2_with fail
                  go_roundw
                  case rel => exact ⟨v + 1, dv + 0, by omega, by go_num, KZ.out, by omega⟩
                  case measure => simp [intOf]; omega
                · obtain rfl : v = iv.ents.length := by omega
                  have FZ : Hid (Fr none_ wr wyv) := hid_ (F6.out.trans Kv.out.fr (fun _ _ => id) (fun i hi e => by have := e.1; omega))
                  have FW : Hid (Fr none_ w1 wyv) := hid_ (F.out.then_none FZ.out)
                  clear Kv Ku Kq PO F5 F6 O
                  have HLE : Hid (Cs.map (·.R) = L.map (·.R)) := HCM'
                  go_wp2_with fail
                  refine (of_okO 1 0 0 oA k oc Cs [] none 0 wyv (HCO.out.keep FZ.out) (by omega) HRC.out HEC.out Reads.nil_ (by simp)).mono ?_
                  intro e w8 hpost
                  obtain ⟨qv, ev2, rfl, hqs, hqo, hqk, hf8⟩ := qok_of hpost
                  rw [HLE.out] at hqk
                  have QK := hid_ hqk
                  have F8 := hid_ (FW.out.then_none hf8)
                  clear hpost hqk hf8 FW FZ
                  go_upto_region 31 with (refine wpList_store_mid rfl 45 (.tmp 12) (.tmp 118) rfl w8.heap.size 0 qv rfl rfl (by rw [hqs]; exact new_there w8 _ pgZ) (by rw [hqs]; exact page_size) hqo ?_; obtain ⟨w9, hw9⟩ : ∃ z, z = (w8.alloc (.cells pgZ 45)).setCells w8.heap.size 0 qv.toList := ⟨_, rfl⟩; change wpList _ _ _ _ _ ((w8.alloc (.cells pgZ 45)).setCells w8.heap.size 0 qv.toList); rw [← hw9]; have K9 : Hid (Blk w9 w8.heap.size 45 qv ∧ Fr none_ w8 w9) := hid_ (by rw [hw9]; have h9 := new_copy w8 45 pgZ qv.toList (by rw [Array.length_toList, hqs]; rfl); simpa using h9); clear hw9)
                  have F9 := hid_ (F8.out.then_none K9.out.2)
                  have B9 := hid_ K9.out.1
                  have Q9 := hid_ K9.out.2
                  have hlt9 := K9.out.1.lt
                  obtain ⟨g9, hg9⟩ : ∃ g, g = w8.heap.size := ⟨_, rfl⟩
                  rw [← hg9] at B9 hlt9
                  rw [← hg9]
                  clear hg9 K9
                  go_wp2_with fail
                  refine (rof_okB 1 0 0 A k cap L none 0 0 w9 (HCR.out.keep F9.out) (by omega) HRW.out HCP.out (fun C hC => by have := HEN.out C hC; omega)).mono ?_
                  intro e w10 hpost
                  obtain ⟨vv, ev3, rfl, hvs, hvo, hvk, hf10⟩ := wok_of hpost
                  have WK := hid_ hvk
                  have F10 := hid_ (F9.out.then_none hf10)
                  replace B9 := hid_ (B9.out.fr hf10 id)
                  replace Q9 := hid_ (Q9.out.then_none hf10)
                  have hsz10 := hf10.size
                  clear hpost hvk hf10
                  go_upto_region 32 with (refine wpList_store_mid rfl 68 (.tmp 14) (.tmp 124) rfl w10.heap.size 0 vv rfl rfl (by rw [hvs]; exact new_there w10 _ pgZ) (by rw [hvs]; exact rpage_size) hvo ?_; obtain ⟨w11, hw11⟩ : ∃ z, z = (w10.alloc (.cells pgZ 68)).setCells w10.heap.size 0 vv.toList := ⟨_, rfl⟩; change wpList _ _ _ _ _ ((w10.alloc (.cells pgZ 68)).setCells w10.heap.size 0 vv.toList); rw [← hw11]; have K11 : Hid (Blk w11 w10.heap.size 68 vv ∧ Fr none_ w10 w11) := hid_ (by rw [hw11]; have h9 := new_copy w10 68 pgZ vv.toList (by rw [Array.length_toList, hvs]; rfl); simpa using h9); clear hw11)
                  have F11 := hid_ (F10.out.then_none K11.out.2)
                  have B11 := hid_ K11.out.1
                  replace B9 := hid_ (B9.out.fr K11.out.2 id)
                  have HSM : Hid (Calls Try.prog 26 #[.agg qv, .agg vv] w11 fun e w' => e = .returned (.bool true) ∧ Fr none_ w11 w') := hid_ (same_both QK.out WK.out (Q9.out.then_none K11.out.2) K11.out.2 (HCR.out.keep F11.out) hln (by omega) (fun C hC => ⟨by have := (HRW.out C hC).2.2; omega, by have := HEN.out C hC; omega⟩))
                  obtain ⟨g11, hg11⟩ : ∃ g, g = w10.heap.size := ⟨_, rfl⟩
                  rw [← hg11] at B11
                  rw [← hg11]
                  clear hg11 K11 QK WK Q9
                  go_wp2_with (first | (refine wpList_load_mid rfl 45 (.tmp 12) rfl g9 0 rfl qv.toList _ (by have h := B9.out.range7' ; exact h) Try.underlying45 rfl (by rw [Array.length_toList, hqs]; exact page_size) ?_) | (refine wpList_load_mid rfl 68 (.tmp 14) rfl g11 0 rfl vv.toList _ (by have h := B11.out.range7'; exact h) Try.underlying68 rfl (by rw [Array.length_toList, hvs]; exact rpage_size) ?_))
                  refine HSM.out.mono ?_
                  rintro e w12 ⟨rfl, hf12⟩
                  go_wp2_with fail
                  refine (awake10_ok w12).mono ?_
                  rintro e w13 ⟨rfl, hf13⟩
                  go_wp2_with fail
                  go_ret
                  exact ⟨rfl, ((F1.out.then_none F11.out).then_none hf12).then_none hf13⟩
theorem own10_walk_i {H : Type} {enc : TypeId × Value → H} (A : Option Addr) (n cap : Nat) (hc : n ≤ cap) (hm : cap ≤ maxLen) (w : World) (h : RecordAt enc w A n) : Calls Try.prog 4 #[.slice A n cap] w fun e w' => e = .returned (.bool true) ∧ Fr none_ w w' := by
  obtain ⟨L, hi, hr, hp⟩ := ins_of3 h
  exact own10_law A n cap L w hi hr hp (Nat.le_trans hc hm)
end Go.Proofs.Ytpjbncbmdfmlpaa

/- ArenaCopies: behind the copy both pairs agree; a region in which one of two operations comes first. -/
import Derived.Test.YtfoljojacakkeaaDoorTwo4
namespace Go.Proofs.YtfoljojacakkeaaDoor
open Go.RowKit Go.ChangeShapes Go.WideShapes
set_option maxRecDepth 100000
set_option linter.unusedVariables false
section
variable {P : Program} {md : Region.Mode} {ops : Array Oper} {Q : Exit → Act → World → Prop} {S : World → Prop} {m fuel : Nat} {listed : Array Bool} {a : Act} {w : World} {oi : Oper}
/-- What one of the operations that are ready must bring, closed to the unifier. -/
structure UwI (P : Program) (md : Region.Mode) (ops : Array Oper) (Q : Exit → Act → World → Prop) (S : World → Prop) (m fuel : Nat) (listed : Array Bool) (a : Act) (w : World) (i : Nat) : Prop where
  h : wpOp P ops Q i (fun a' w' => (m ≤ i ∨ S w') ∧ UwA P md ops Q S m fuel (listed.setIfInBounds i true) a' w') a w
theorem u_two (i j : Nat) (hr : Region.ready md ops listed = [i, j]) (h1 : UwI P md ops Q S m fuel listed a w i) (h2 : UwI P md ops Q S m fuel listed a w j) : UwA P md ops Q S m (fuel + 1) listed a w := by
  refine ⟨wpAnyU_all hr (by simp) (fun k hk => ?_)⟩
  have hk' : k = i ∨ k = j := by simpa using hk
  rcases hk' with rfl | rfl
  · exact wpOp_mono (fun a' w' h' => ⟨h'.1, h'.2.h⟩) h1.h
  · exact wpOp_mono (fun a' w' h' => ⟨h'.1, h'.2.h⟩) h2.h
theorem i_callE (i : Nat) (d : Option Tmp) (f : FuncId) (vs : Array Value) (F : Value → World → Prop) (hi : ops[i]? = some oi) (hd : oi.dst = d) (hw : Region.wanted oi (yielded ops a.tmps) = true)
    (hx : (execOp a.eval oi).run P w = .ok (.enter f vs) w) (hc : Calls P f vs w (fun e w' => ∃ v, e = .returned v ∧ F v w'))
    (h : ∀ v w', F v w' → S w' ∧ UwA P md ops Q S m fuel (listed.setIfInBounds i true) (a.put d v) w') : UwI P md ops Q S m fuel listed a w i := by
  subst hd
  refine ⟨?_⟩
  unfold wpOp
  simp only [hi, hw, if_true]
  refine .inl ?_
  unfold Oper.wp
  rw [hx, Oper.upon_enter]
  refine hc.mono ?_
  rintro e w' ⟨v, rfl, hF⟩
  exact ⟨.inr (h v w' hF).1, (h v w' hF).2⟩
theorem i_step (i : Nat) (d : Option Tmp) (v : Value) (w' : World) (hi : ops[i]? = some oi) (hd : oi.dst = d) (hw : Region.wanted oi (yielded ops a.tmps) = true)
    (hx : (execOp a.eval oi).run P w = .ok (.value v) w') (h : S w' ∧ UwA P md ops Q S m fuel (listed.setIfInBounds i true) (a.put d v) w') : UwI P md ops Q S m fuel listed a w i := by
  subst hd
  refine ⟨?_⟩
  unfold wpOp
  simp only [hi, hw, if_true]
  refine .inl ?_
  unfold Oper.wp
  rw [hx]
  exact ⟨.inr h.1, h.2⟩
end
section
variable {P : Program} {md : Region.Mode} {ops : Array Oper} {Q : Exit → Act → World → Prop} {S : World → Prop} {m fuel : Nat} {listed : Array Bool} {a : Act} {w : World} {oi : Oper}
/-- From m on nothing is asked of S. -/
theorem u_of_i (i : Nat) (hr : Region.ready md ops listed = [i]) (h : UwI P md ops Q S m fuel listed a w i) : UwA P md ops Q S m (fuel + 1) listed a w := by
  refine ⟨wpAnyU_all hr (by simp) (fun k hk => ?_)⟩
  obtain rfl : k = i := by simpa using hk
  exact wpOp_mono (fun a' w' h' => ⟨h'.1, h'.2.h⟩) h.h
theorem u_three (i j k : Nat) (hr : Region.ready md ops listed = [i, j, k]) (h1 : UwI P md ops Q S m fuel listed a w i) (h2 : UwI P md ops Q S m fuel listed a w j) (h3 : UwI P md ops Q S m fuel listed a w k) : UwA P md ops Q S m (fuel + 1) listed a w := by
  refine ⟨wpAnyU_all hr (by simp) (fun x hx => ?_)⟩
  have hx' : x = i ∨ x = j ∨ x = k := by simpa using hx
  rcases hx' with rfl | rfl | rfl
  · exact wpOp_mono (fun a' w' h' => ⟨h'.1, h'.2.h⟩) h1.h
  · exact wpOp_mono (fun a' w' h' => ⟨h'.1, h'.2.h⟩) h2.h
  · exact wpOp_mono (fun a' w' h' => ⟨h'.1, h'.2.h⟩) h3.h
theorem i_stepM (i : Nat) (d : Option Tmp) (v : Value) (w' : World) (hmi : m ≤ i) (hi : ops[i]? = some oi) (hd : oi.dst = d) (hw : Region.wanted oi (yielded ops a.tmps) = true)
    (hx : (execOp a.eval oi).run P w = .ok (.value v) w') (h : UwA P md ops Q S m fuel (listed.setIfInBounds i true) (a.put d v) w') : UwI P md ops Q S m fuel listed a w i := by
  subst hd
  refine ⟨?_⟩
  unfold wpOp
  simp only [hi, hw, if_true]
  refine .inl ?_
  unfold Oper.wp
  rw [hx]
  exact ⟨.inl hmi, h⟩
theorem i_storeM (i : Nat) (ty : TypeId) (x y : Operand) (b o : Nat) (cells : Array Value) (hmi : m ≤ i) (hi : ops[i]? = some oi) (hd : oi.dst = none) (hw : Region.wanted oi (yielded ops a.tmps) = true)
    (ho : oi.op = .store ty x y) (hx : a.eval x = .pointer (some ⟨b, o, none⟩)) (hy : a.eval y = .agg cells) (ht : w.there b o cells.size) (hz : (P.info? ty).map (·.size) = some cells.size) (h1 : cells.all (·.oneCell') = true)
    (h : ∀ w', w' = w.setCells b o cells.toList → UwA P md ops Q S m fuel (listed.setIfInBounds i true) a w') : UwI P md ops Q S m fuel listed a w i := by
  refine ⟨?_⟩
  unfold wpOp
  simp only [hi, hw, if_true]
  refine .inl ?_
  refine wp_store_mid ty x y ho b o cells hx hy ht hz h1 ?_
  rw [hd]
  exact ⟨.inl hmi, h _ rfl⟩
theorem i_callM (i : Nat) (d : Option Tmp) (f : FuncId) (vs : Array Value) (F : Value → World → Prop) (hmi : m ≤ i) (hi : ops[i]? = some oi) (hd : oi.dst = d) (hw : Region.wanted oi (yielded ops a.tmps) = true)
    (hx : (execOp a.eval oi).run P w = .ok (.enter f vs) w) (hc : Calls P f vs w (fun e w' => ∃ v, e = .returned v ∧ F v w'))
    (h : ∀ v w', F v w' → UwA P md ops Q S m fuel (listed.setIfInBounds i true) (a.put d v) w') : UwI P md ops Q S m fuel listed a w i := by
  subst hd
  refine ⟨?_⟩
  unfold wpOp
  simp only [hi, hw, if_true]
  refine .inl ?_
  unfold Oper.wp
  rw [hx, Oper.upon_enter]
  refine hc.mono ?_
  rintro e w' ⟨v, rfl, hF⟩
  exact ⟨.inl hmi, h v w' hF⟩
end
/-- Behind the copy. -/
theorem Two4.make {w wr w8 : World} {off : Nat → Prop} {slots last : Int} {a G B : Nat} {ss : List Sl} {LL : List RaP} {A : Option Addr} {c k a2 G2 B2 : Nat} (h : P4 w wr off a G slots last B ss LL A c k) (hoff : ∀ x, off x → x < wr.heap.size ∧ w.heap.size ≤ x) (oG : off G) (oB : off B) (hf : Fr none_ wr w8) (ha : Ar w8 a2 G2 last ss) (hb : Blk w8 B2 29 (raA slots last LL A c)) (hG2 : wr.heap.size ≤ G2) (hB2 : wr.heap.size ≤ B2) :
    Two4 w w8 (fun x => off x ∨ x = G2 ∨ x = B2) slots last a G B ss LL A c a2 G2 B2 ss LL A c k := by
  have hw := h.fr.size
  have h8 := hf.size
  have hp := h.keep hf
  have hlt : ∀ ad, A = some ad → 0 < LL.length → ad.block < wr.heap.size := fun ad e hn => h.pl.ra.rd.blk4 (by decide) hn e
  have hoA : ∀ ad, A = some ad → 0 < LL.length → ¬ (off ad.block ∨ ad.block = G2 ∨ ad.block = B2) := fun ad e hn hb => by
    have h1 := hlt ad e hn
    rcases hb with hb | hb | hb
    · exact h.offA ad e hn hb
    · omega
    · omega
  refine ⟨⟨hp.b, hp.pl, hp.hl, hp.low, hp.keys, hoA, hp.fr⟩, ⟨hb, ⟨ha, hp.pl.ra, hp.pl.sim, hp.pl.ns, hp.pl.xg, fun ad e hn => by have := hlt ad e hn; omega, h.lowR (by omega)⟩, hp.hl, hp.low, hp.keys, hoA, hp.fr⟩, ?_, ?_, fun x hx => ?_, .inl oG, .inr (.inl rfl), .inl oB, .inr (.inr rfl)⟩
  · have := (hoff G oG).1; omega
  · have := (hoff B oB).1; omega
  · rcases hx with hx | rfl | rfl
    · have := hoff x hx; omega
    · exact ⟨ha.ltG, by omega⟩
    · exact ⟨hb.lt, by omega⟩
theorem DnReads.from_ {w : World} {A : Option Addr} {n k cap : Nat} {L : List Dn} (h : DnReads w A n L) (hk : k ≤ n) (hc : n ≤ cap) : DnReads w (if cap = k then A else A.map (·.add (k * 20))) (n - k) (L.drop k) := by
  refine ⟨by rw [List.length_drop, h.1], fun hn => ?_⟩
  obtain ⟨b, off, rfl, hb, hx⟩ := h.2 (by omega)
  rw [if_neg (by omega)]
  refine ⟨b, off + k * 20, by rw [Option.map_some, add_lit], hb, fun j D hD => ?_⟩
  rw [List.getElem?_drop] at hD
  have e : off + k * 20 + j * 20 = off + (k + j) * 20 := by omega
  rw [e]
  exact hx (k + j) D hD
/-- A row of refs of one's own, behind a step. -/
theorem own_two {w w5 w6 : World} {off : Nat → Prop} {slots last : Int} {a G B : Nat} {ss : List Sl} {LL : List RaP} {A : Option Addr} {c : Nat} {a2 G2 B2 : Nat} {ss2 : List Sl} {LL2 : List RaP} {A2 : Option Addr} {c2 k : Nat} (h : Two4 w w5 off slots last a G B ss LL A c a2 G2 B2 ss2 LL2 A2 c2 k) {v : Value} {X : List Rf} (ho : w5.ownsRow w.heap.size 38 2 v X.length (rfFlat X)) (hf : Fr (only G) w5 w6) (vs : List Value) :
    (w6.setCells B 0 vs).ownsRow w.heap.size 38 2 v X.length (rfFlat X) := by
  obtain ⟨cs, hG⟩ := h.p.blkG
  have h6 := own_fr ho hf (fun j hj e => own_blk_ne ho hG (by decide) (by rw [hj]; exact congrArg some e))
  have hb6 := h.p.b.fr hf (only_ne (Blk.ne_ h.p.b hG (by decide)))
  exact own_fr h6 (Fr.setCells _ _ _ (Fr.refl _ _) (.inl rfl) : Fr (only B) w6 _) (fun j hj e => own_blk_ne h6 hb6 (by decide) (by rw [hj]; exact congrArg some e))
end Go.Proofs.YtfoljojacakkeaaDoor

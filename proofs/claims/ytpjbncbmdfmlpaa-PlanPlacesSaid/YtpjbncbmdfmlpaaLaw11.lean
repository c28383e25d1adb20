/- Plain laws of plans. -/
import Derived.Test.YtpjbncbmdfmlpaaReads11
import Derived.Test.YtpjbncbmdfmlpaaUpkF7
import Derived.Test.YtpjbncbmdfmlpaaLaw8
namespace Go.Proofs.Ytpjbncbmdfmlpaa
open Go.RowKit Go.BigFrame
set_option maxRecDepth 100000
set_option linter.unusedVariables false

theorem bl_ltL : ∀ x y : List UInt8, Op.bytesLess x y = ltL x y
  | [], [] => rfl
  | _ :: _, [] => rfl
  | [], _ :: _ => rfl
  | a :: x, b :: y => by
    show (decide (a < b) || (a == b && Op.bytesLess x y)) = ltL (a :: x) (b :: y)
    rw [bl_ltL x y, ltL]
    have e1 : decide (a < b) = decide (a.toNat < b.toNat) := by rw [decide_eq_decide]; exact UInt8.lt_iff_toNat_lt
    have e2 : (a == b) = decide (a.toNat = b.toNat) := by
      rw [Bool.eq_iff_iff, beq_iff_eq, decide_eq_true_iff]
      exact ⟨fun h => by rw [h], fun h => UInt8.toNat_inj.1 h⟩
    rw [e1, e2]
theorem bl_ltS (a b : ByteArray) : Op.bytesLess a.toList b.toList = ltS a b := by rw [bl_ltL, ba_toList, ba_toList]; rfl
/-- What is ahead of one is ahead of all that is not ahead of that one. -/
theorem ltS_of_ge {a b c : ByteArray} (h : ltS a b = true) (k : ltS c b = false) : ltS a c = true := by
  rcases ltS_total b c with e | rfl | e
  · exact ltS_trans h e
  · exact h
  · rw [e] at k; cases k
theorem calm_none {P : Pz} {a : Az} {l : L6} (h1 : ¬ l.chain < (P.nc : Int)) (h2 : ¬ l.rows < (P.size : Int)) (h3 : 0 < P.size) : upkM P a l = none := by
  unfold upkM
  rw [if_neg h1, if_neg (fun h => h2 h.1), if_neg h2, if_pos (.inr (.inl h3))]
theorem dec_calm {P : Pz} {a : Az} {key : ByteArray} {l : L6} (hh : P.iv.held = false) (hin : inS P.low P.high P.unb key = true) (h1 : ¬ l.chain < (P.nc : Int)) (h2 : ¬ l.rows < (P.size : Int)) (h3 : 0 < P.size) :
    decM P a key l true = decM P a key l false := by
  cases hg : (P.leaf && P.lv.gone) with
  | true => rw [dec_a hg, dec_a hg]
  | false => rw [dec_e hg (by rw [hh]; simp) hin (fun _ => calm_none h1 h2 h3), dec_e hg (by simp) hin (fun h => by cases h)]
theorem dec_last {P : Pz} {a : Az} {key : ByteArray} {l : L6} (hl : P.leaf = false) (hu : P.iv.unb = true) (hg : Sound P.iv) {p : Et} (hp : P.iv.ents[P.iv.ents.length - 1]? = some p) (hk : ltS key p.1 = false) :
    decM P a key l false = ⟨1, p.2, nilS, 0, 0, 0, nilS⟩ := by
  have hlow : ltS key P.iv.low = false := by
    cases h : ltS key P.iv.low with
    | false => rfl
    | true =>
      have := ltS_of_ge h (inS_iff.1 (hg.inn p (List.mem_of_getElem? hp))).1
      rw [hk] at this; cases this
  have hin : inS P.iv.low P.iv.high P.iv.unb key = true := inS_iff.2 ⟨hlow, .inl hu⟩
  have hc : childM P.iv key = some p := hg.child_is hin ⟨hp, hk, fun q hq => by
    have h1 := lt_of_some hq
    have h2 := hg.pos
    omega⟩
  rw [dec_e (by rw [hl]; rfl) (by simp) (by unfold Pz.low Pz.high Pz.unb; rw [hl]; exact hin) (fun h => by cases h)]
  unfold decR
  rw [if_neg (by rw [hl]; decide), hc]
/-- The last entry ahead of a key, among the first k. -/
def lastTo (L : List Et) (high : ByteArray) (unb : Bool) : Nat → Option Et
  | 0 => none
  | k + 1 => match L[k]? with
    | some p => if (unb || ltS p.1 high) = true then some p else lastTo L high unb k
    | none => lastTo L high unb k
theorem last_hit {L : List Et} {high : ByteArray} {unb : Bool} {k : Nat} {p : Et} (hp : L[k]? = some p) (h : (unb || ltS p.1 high) = true) : lastTo L high unb (k + 1) = some p := by simp [lastTo, hp, h]
theorem last_miss {L : List Et} {high : ByteArray} {unb : Bool} {k : Nat} {p : Et} (hp : L[k]? = some p) (h : (unb || ltS p.1 high) = false) : lastTo L high unb (k + 1) = lastTo L high unb k := by simp [lastTo, hp, h]
noncomputable def backM (P : Pz) (high : ByteArray) (unb helps : Bool) : Pn :=
  if (P.leaf && P.lv.gone) = true then pnK 3
  else if (helps && (!P.leaf && P.iv.held)) = true then ⟨5, 0, nilS, 0, P.iv.hp, P.iv.hl, P.iv.hk⟩
  else if (!P.unb && (unb || ltS P.high high)) = true then ⟨2, P.right, nilS, 0, 0, 0, nilS⟩
  else if P.leaf = true then pnK 10
  else match lastTo P.iv.ents high unb P.iv.ents.length with
  | some p => ⟨1, p.2, nilS, 0, 0, 0, nilS⟩
  | none => pnK 3
theorem back_last {P : Pz} (hl : P.leaf = false) (hu : P.iv.unb = true) {p : Et} (hp : P.iv.ents[P.iv.ents.length - 1]? = some p) : backM P nilS true false = ⟨1, p.2, nilS, 0, 0, 0, nilS⟩ := by
  unfold backM
  have hb : (!P.unb && (true || ltS P.high nilS)) = false := by unfold Pz.unb; rw [hl, if_neg (by decide), hu]; rfl
  rw [if_neg (by rw [hl]; simp), if_neg (by simp), if_neg (by rw [hb]; decide), if_neg (by rw [hl]; decide)]
  have h := lt_of_some hp
  obtain ⟨k, hk⟩ : ∃ k, P.iv.ents.length = k + 1 := ⟨P.iv.ents.length - 1, by omega⟩
  rw [hk] at hp ⊢
  have e : lastTo P.iv.ents nilS true (k + 1) = some p := last_hit (by simpa using hp) (by simp)
  rw [e]
/-- Where each kind of plan is told. -/
theorem holdM_at {V : Vw} {page : Int} {h : Int × Int × ByteArray} (hh : holdM V page = some h) (hr : Ris V.ents) : h.1 = page ∧ atB V.ents h.2.2 = true := by
  rcases holdM_is V page with ⟨_, e⟩ | ⟨i, x, q, _, h2, h3, _, e⟩
  · rw [hh] at e; cases e
  · rw [hh] at e
    injection e with e
    rw [e]
    exact ⟨h3, (hr.at h2).2⟩
/-- Where who is told a plan is. -/
inductive PlaceIs (P : Pz) (a : Az) (key : ByteArray) (l : L6) (wr : Bool) : Pn → Prop where
  | act (h1 : P.leaf = true) (h2 : inS P.low P.high P.unb key = true) (h3 : P.lv.gone = false) : PlaceIs P a key l wr (pnK 10)
  | down (p : Et) (h1 : P.leaf = false) (h2 : inS P.low P.high P.unb key = true) (h3 : childM P.iv key = some p) : PlaceIs P a key l wr ⟨1, p.2, nilS, 0, 0, 0, nilS⟩
  | across (h1 : P.unb = false) (h2 : ltS key P.low = false) (h3 : ltS key P.high = false) : PlaceIs P a key l wr ⟨2, P.right, nilS, 0, 0, 0, nilS⟩
  | post (h1 : a.some_ = true) (h2 : wr = true) (h3 : atB a.V.ents P.high = false) : PlaceIs P a key l wr ⟨4, 0, P.high, P.right, 0, 0, nilS⟩
  | split (h1 : l.rows < (P.size : Int)) (h2 : P.n ≠ 0) : PlaceIs P a key l wr (pnK 7)
  | grow (h1 : l.rows < (P.size : Int)) (h2 : P.n = 0) : PlaceIs P a key l wr (pnK 8)
  | hold (hl : Int) (hk : ByteArray) (h1 : P.leaf = true) (h2 : P.size = 0) (h3 : atB a.V.ents hk = true) : PlaceIs P a key l wr ⟨9, 0, nilS, 0, P.n, hl, hk⟩
  | tidy (h1 : l.chain < (P.nc : Int)) : PlaceIs P a key l wr (pnK 6)
  | again : PlaceIs P a key l wr (pnK 3)
  | help (hp hl : Int) (hk : ByteArray) : PlaceIs P a key l wr ⟨5, 0, nilS, 0, hp, hl, hk⟩
theorem decR_places {P : Pz} {a : Az} {key : ByteArray} {l : L6} {wr : Bool} (hg : (P.leaf && P.lv.gone) = false) (hin : inS P.low P.high P.unb key = true) : PlaceIs P a key l wr (decR P key) := by
  unfold decR
  cases hl : P.leaf with
  | true =>
    rw [if_pos rfl]
    exact .act hl hin (by rw [hl] at hg; simpa using hg)
  | false =>
    rw [if_neg (by decide)]
    cases hc : childM P.iv key with
    | none => exact .again
    | some p => exact .down p hl hin hc
theorem dec_places (P : Pz) (a : Az) (key : ByteArray) (l : L6) (wr : Bool) (hr : a.some_ = true → Ris a.V.ents) : PlaceIs P a key l wr (decM P a key l wr) := by
  cases hg : (P.leaf && P.lv.gone) with
  | true => rw [dec_a hg]; exact .again
  | false =>
    cases hh : (wr && (!P.leaf && P.iv.held)) with
    | true => rw [dec_b hg hh]; exact .help _ _ _
    | false =>
      cases hin : inS P.low P.high P.unb key with
      | false =>
        rw [dec_c hg hh hin]
        unfold beyM
        cases hlt : ltS key P.low with
        | true => rw [if_pos rfl]; exact .again
        | false =>
          rw [if_neg (by decide)]
          split
          · rename_i hc
            simp only [Bool.and_eq_true, Bool.not_eq_true'] at hc
            exact .post hc.2.1 hc.1 hc.2.2.2.2
          · unfold inS at hin
            rw [hlt] at hin
            simp only [Bool.not_false, Bool.true_and, Bool.or_eq_false_iff] at hin
            exact .across hin.1 hlt hin.2
      | true =>
        cases wr with
        | false =>
          rw [dec_e hg hh hin (fun h => by cases h)]
          exact decR_places hg hin
        | true =>
          cases hu : upkM P a l with
          | none =>
            rw [dec_e hg hh hin (fun _ => hu)]
            exact decR_places hg hin
          | some x =>
            rw [dec_d hg hh hin hu]
            unfold upkM at hu
            split at hu
            · rename_i h1; cases hu; exact .tidy h1
            · split at hu
              · rename_i h1; cases hu; exact .grow h1.1 h1.2
              · split at hu
                · rename_i h0 h1
                  cases hu
                  exact .split h1 (fun e => h0 ⟨h1, e⟩)
                · split at hu
                  · cases hu
                  · rename_i h2
                    cases hm : holdM a.V P.n with
                    | none => rw [hm] at hu; cases hu
                    | some h =>
                      rw [hm] at hu
                      cases hu
                      have hs : a.some_ = true := by
                        cases hs : a.some_ with
                        | true => rfl
                        | false => exact absurd (.inr (.inr (.inl hs))) h2
                      have hk := holdM_at hm (hr hs)
                      show PlaceIs P a key l true ⟨9, 0, nilS, 0, h.1, h.2.1, h.2.2⟩
                      rw [hk.1]
                      refine .hold _ _ ?_ ?_ hk.2
                      · cases hs : P.leaf with
                        | true => rfl
                        | false => exact absurd (.inl hs) h2
                      · exact Nat.eq_zero_of_not_pos fun hp => h2 (.inr (.inl hp))
end Go.Proofs.Ytpjbncbmdfmlpaa

/- The document's words on keys and inner views: Before, In, At, Child, Base, given, rising. -/
import Derived.Test.YtfoljojacakkeaaDoorHoldN8
import Derived.BigQuiet
namespace Go.Proofs.YtfoljojacakkeaaDoor
open Go.RowKit Go.BigFrame
set_option maxRecDepth 100000
set_option linter.unusedVariables false

set_option maxHeartbeats 2000000 in
theorem before_ok (a b : ByteArray) (w : World) (ha : a.size ≤ 9000000000000000000) (hb : b.size ≤ 9000000000000000000) :
    Calls Tryd.prog 70 #[.string a, .string b] w fun e w' => e = .returned (.bool (ltS a b)) ∧ ∃ n, w' = w.drewN n := by
  go_enter Tryd.func70, Tryd.ntmps70
  go_wp2_with fail
  go_loopw [5] (fun i wr => ∃ k : Nat, k ≤ a.size ∧ k ≤ b.size ∧ i = .int .i64 k ∧ (∀ j, j < k → a.data.toList[j]? = b.data.toList[j]?) ∧ ∃ q, wr = w.drewN q) (fun i _ => b.size - (intOf i).toNat)
  case atStart => exact ⟨0, Nat.zero_le _, Nat.zero_le _, rfl, fun j hj => by omega, 0, rfl⟩
  case round =>
    obtain ⟨k, hka', hkb', rfl, hall, q, rfl⟩ := hrel
    have HA := hid_ hall
    have hi0 : (0 : Int) ≤ (k : Int) := Int.natCast_nonneg _
    clear hall
    by_cases hlb : k < b.size
    · have hib : (k : Int) < (b.size : Int) := by omega
      by_cases hla : k = a.size
      · have hz : ((k : Int) == (a.size : Int)) = true := beq_iff_eq.2 (by omega)
        have HE : Hid (ltS a b = true) := hid_ (lt_of_end (by rw [ba_len]; exact (cpL_is HA.out (by rw [ba_len]; omega) (by rw [ba_len]; omega) (.inl (by rw [ba_len]; exact hla))).trans hla) (by rw [ba_len, ba_len]; omega))
        clear hla
        go_wp2_with fail
        go_ret
        refine ⟨by rw [HE.out]; rfl, ?_⟩
        first | exact ⟨_, rfl⟩ | exact ⟨_, drewN_drewN _ _ _⟩
      · have hz : ((k : Int) == (a.size : Int)) = false := beq_eq_false_iff_ne.2 (by omega)
        have hka : k < a.size := by omega
        have hkb : k < b.size := hlb
        have hia : (k : Int) < (a.size : Int) := by omega
        clear hla
        by_cases he : a[k] = b[k]
        · have hne : ((a[k].toNat : Int) != (b[k].toNat : Int)) = false := by rw [he]; simp
          have HS : Hid (∀ j, j < k + 1 → a.data.toList[j]? = b.data.toList[j]?) := hid_ (fun j hj => by
            rcases Nat.lt_succ_iff_lt_or_eq.1 hj with h | rfl
            · exact HA.out j h
            · rw [ba_get hka, ba_get hkb, he])
          clear he
          go_wp2_with fail
          go_quiet (fail)
          go_wp2_with fail
          go_roundw
          case rel => exact ⟨k + 1, by omega, by omega, by go_num, HS.out, _, by first | rfl | exact drewN_drewN _ _ _⟩
          case measure => simp [intOf]; omega
        · have hne : ((a[k].toNat : Int) != (b[k].toNat : Int)) = true := by
            rw [bne_iff_ne]
            intro e
            exact he (u8_eq (by omega))
          have hcp : cpL a.data.toList b.data.toList = k := cpL_is HA.out (by rw [ba_len]; omega) (by rw [ba_len]; omega) (.inr (.inr ⟨a[k], b[k], ba_get hka, ba_get hkb, he⟩))
          have HE : Hid (decide (a[k].toNat < b[k].toNat) = ltS a b) := hid_ (by
            by_cases hlt : a[k].toNat < b[k].toNat
            · have : ltS a b = true := lt_of_stop (a := a[k]) (b := b[k]) (by rw [hcp]; exact ba_get hka) (by rw [hcp]; exact ba_get hkb) hlt
              rw [this]; simp [hlt]
            · have h2 : b[k].toNat < a[k].toNat := by
                have : a[k].toNat ≠ b[k].toNat := fun e => he (u8_eq e)
                omega
              have : ltS b a = true := lt_of_stop (a := b[k]) (b := a[k]) (by rw [cp_comm, hcp]; exact ba_get hkb) (by rw [cp_comm, hcp]; exact ba_get hka) h2
              rw [ltS_asymm this]; simp [hlt])
          clear he hcp
          go_wp2_with fail
          go_quiet (fail)
          go_wp2_with fail
          go_quiet (fail)
          go_wp2_with fail
          go_ret
          refine ⟨by rw [← HE.out]; rfl, ?_⟩
          first | exact ⟨_, rfl⟩ | exact ⟨_, drewN_drewN _ _ _⟩ | (simp only [drewN_drewN]; exact ⟨_, rfl⟩)
    · obtain rfl : k = b.size := by omega
      have HE : Hid (ltS a b = false) := hid_ (by
        cases h : ltS a b with
        | false => rfl
        | true =>
          have hcp : cpL a.data.toList b.data.toList = b.size := cpL_is HA.out (by rw [ba_len]; omega) (by rw [ba_len]; omega) (.inr (.inl (by rw [ba_len])))
          rcases Nat.lt_or_ge b.size a.size with h1 | h1
          · have : ltS b a = true := lt_of_end (by rw [cp_comm, hcp, ba_len]) (by rw [ba_len, ba_len]; exact h1)
            rw [ltS_asymm this] at h; cases h
          · have he : a = b := ba_eq (eq_of_cp (by rw [hcp, ba_len]; omega) (by rw [hcp, ba_len]))
            rw [he, ltS_irrefl] at h; cases h)
      go_wp2_with fail
      go_ret
      refine ⟨by rw [HE.out]; rfl, ?_⟩
      first | exact ⟨_, rfl⟩ | exact ⟨_, drewN_drewN _ _ _⟩
set_option maxHeartbeats 1000000 in
theorem rin_ok (low high : ByteArray) (unb : Bool) (key : ByteArray) (w : World) (h1 : low.size ≤ 9000000000000000000) (h2 : high.size ≤ 9000000000000000000) (h3 : key.size ≤ 9000000000000000000) :
    Calls Tryd.prog 108 #[.string low, .string high, .bool unb, .string key] w fun e w' => e = .returned (.bool (inS low high unb key)) ∧ ∃ n, w' = w.drewN n := by
  have HE : ∀ b, ltS key low = b → inS low high unb key = (!b && (unb || ltS key high)) := fun b hb => by rw [← hb]; rfl
  have H := hid_ HE
  clear HE
  cases ha : ltS key low with
  | true =>
    have HA := hid_ ha
    clear ha
    go_enter Tryd.func108, Tryd.ntmps108
    go_wp2_with fail
    refine (before_ok key low _ h3 h1).mono ?_
    rintro e w1 ⟨rfl, q, rfl⟩
    rw [HA.out]
    go_wp2_with fail
    go_ret
    exact ⟨by rw [H.out true HA.out]; rfl, _, rfl⟩
  | false =>
    have HA := hid_ ha
    clear ha
    cases unb with
    | true =>
      go_enter Tryd.func108, Tryd.ntmps108
      go_wp2_with fail
      refine (before_ok key low _ h3 h1).mono ?_
      rintro e w1 ⟨rfl, q, rfl⟩
      rw [HA.out]
      go_wp2_with fail
      go_ret
      exact ⟨by rw [H.out false HA.out]; rfl, _, rfl⟩
    | false =>
      go_enter Tryd.func108, Tryd.ntmps108
      go_wp2_with fail
      refine (before_ok key low _ h3 h1).mono ?_
      rintro e w1 ⟨rfl, q, rfl⟩
      rw [HA.out]
      go_wp2_with fail
      refine (before_ok key high _ h3 h2).mono ?_
      rintro e w2 ⟨rfl, q2, rfl⟩
      go_wp2_with fail
      go_ret
      exact ⟨by rw [H.out false HA.out]; simp, _, by first | rfl | exact drewN_drewN _ _ _⟩
theorem rvin_ok (V : Vw) (ve : Value) (key : ByteArray) (w : World) (h1 : SzOk V.low) (h2 : SzOk V.high) (h3 : SzOk key) :
    Calls Tryd.prog 71 #[vwV V ve, .string key] w fun e w' => e = .returned (.bool (inS V.low V.high V.unb key)) ∧ Fr none_ w w' := by
  have F0 := hid_ ((Fr.refl none_ w).alloc (.cells (vwA V ve) 52))
  have H := hid_ (And.intro h1 (And.intro h2 h3))
  clear h1 h2 h3
  go_enter Tryd.func71, Tryd.ntmps71
  go_wp2_with fail
  refine (rin_ok V.low V.high V.unb key _ H.out.1.le H.out.2.1.le H.out.2.2.le).mono ?_
  rintro e w1 ⟨rfl, q, rfl⟩
  go_wp2
  go_ret
  exact ⟨rfl, F0.out.drewN q⟩
/-- The model's order of texts is the same. -/
theorem bytesLess_lt : ∀ (a b : List UInt8), Op.bytesLess a b = ltL a b
  | [], [] => by simp [Op.bytesLess, ltL]
  | [], _ :: _ => by simp [Op.bytesLess, ltL]
  | _ :: _, [] => by simp [Op.bytesLess, ltL]
  | a :: r, b :: s => by
    have := bytesLess_lt r s
    have e1 : decide (a < b) = decide (a.toNat < b.toNat) := by
      have : a < b ↔ a.toNat < b.toNat := UInt8.lt_iff_toNat_lt
      simp [this]
    have e2 : (a == b) = decide (a.toNat = b.toNat) := by
      by_cases h : a = b
      · subst h; simp
      · have : a.toNat ≠ b.toNat := fun e => h (u8_eq e)
        simp [h, this]
    simp only [Op.bytesLess, ltL, this, e1, e2]
theorem less_lt (a b : ByteArray) : Op.bytesLess a.toList b.toList = ltS a b := by rw [ba_toList, ba_toList, bytesLess_lt]; rfl
/-- Do the keys rise? -/
def Rising (L : List Et) : Prop := ∀ (j : Nat) (p q : Et), L[j]? = some p → L[j + 1]? = some q → ltS p.1 q.1 = true
def RisPost (L : List Et) (w : World) (e : Ending) (w' : World) : Prop := ∃ b : Bool, e = .returned (.bool b) ∧ (b = true → Rising L) ∧ Fr none_ w w'
set_option maxHeartbeats 2000000 in
theorem rising_ok (L : List Et) (A : Option Addr) (c : Nat) (w : World) (h : Reads w 2 A L.length (etFlat L)) (hl : L.length ≤ 1000) : Calls Tryd.prog 22 #[.slice A L.length c] w (RisPost L w) := by
  have H := hid_ h
  clear h
  go_enter Tryd.func22, Tryd.ntmps22
  go_wp2_with fail
  go_loopw [3] (fun i wr => ∃ k : Nat, 1 ≤ k ∧ k ≤ L.length + 1 ∧ i = .int .i64 k ∧ (∀ (j : Nat) (p q : Et), j + 1 < k → L[j]? = some p → L[j + 1]? = some q → ltS p.1 q.1 = true) ∧ Fr none_ w wr) (fun i _ => L.length + 1 - (intOf i).toNat)
  case atStart => exact ⟨1, Nat.le_refl _, by omega, rfl, fun j p q hj => by omega, Fr.refl _ _⟩
  case round =>
    obtain ⟨k, hk1, hk, rfl, hall, hfr⟩ := hrel
    have FR := hid_ hfr
    have HA := hid_ hall
    have hi0 : (0 : Int) ≤ (k : Int) := Int.natCast_nonneg _
    clear hall hfr
    by_cases hlt : k < L.length
    · obtain ⟨q, hq⟩ : ∃ q, L[k]? = some q := ⟨_, List.getElem?_eq_getElem hlt⟩
      obtain ⟨l, hl2⟩ : ∃ l, L[k - 1]? = some l := ⟨_, List.getElem?_eq_getElem (by omega)⟩
      have HQ := hid_ (And.intro hq hl2)
      obtain ⟨b, off, rfl, hb, d0, d1⟩ := et_at (H.out.none_fr FR.out) hq
      obtain ⟨b', off', e', hb', l0, l1⟩ := et_at (H.out.none_fr FR.out) hl2
      cases e'
      have hi1 : (k : Int) < (L.length : Int) := by omega
      have hkm : IntKind.i64.wrap ((k : Int) - 1) = ((k - 1 : Nat) : Int) := by rw [IntWalk.i64_in _ (by omega)]; omega
      have hi3 : ((k - 1 : Nat) : Int) < (L.length : Int) := by omega
      have hi4 : (0 : Int) ≤ ((k - 1 : Nat) : Int) := Int.natCast_nonneg _
      have hle := less_lt l.1 q.1
      clear hq hl2 d1 l1
      cases hc : ltS l.1 q.1 with
      | false =>
        rw [hc] at hle
        clear hc
        go_wp2_with fail
        go_quiet (fail)
        go_wp2_with fail
        go_ret
        exact ⟨false, rfl, (fun h => by cases h), by repeat (first | exact FR.out | apply Fr.drewN | apply Fr.drew)⟩
      | true =>
        rw [hc] at hle
        have HC := hid_ hc
        clear hc
        go_wp2_with fail
        go_quiet (fail)
        go_wp2_with fail
        go_roundw
        case rel =>
          refine ⟨k + 1, by omega, by omega, by go_num, fun j p r hj hp hr => ?_, by repeat (first | exact FR.out | apply Fr.drewN | apply Fr.drew)⟩
          by_cases hjk : j + 1 < k
          · exact HA.out j p r hjk hp hr
          · obtain rfl : k = j + 1 := by omega
            obtain rfl := Option.some.inj (HQ.out.1.symm.trans hr)
            obtain rfl := Option.some.inj (HQ.out.2.symm.trans hp)
            exact HC.out
        case measure => simp [intOf]; omega
    · have hi1 : ¬ (k : Int) < (L.length : Int) := by omega
      go_wp2_with fail
      go_ret
      exact ⟨true, rfl, (fun _ j p q hp hq => HA.out j p q (by have := (List.getElem?_eq_some_iff.1 hq).1; omega) hp hq), FR.out⟩
/-- At's answer. -/
def AtIs (L : List Et) (key : ByteArray) (k : Int) : Prop := (∃ (i : Nat) (p : Et), k = (i : Int) ∧ L[i]? = some p ∧ p.1 = key) ∨ (k = -1 ∧ ∀ (i : Nat) (p : Et), L[i]? = some p → p.1 ≠ key)
set_option maxHeartbeats 2000000 in
theorem rat_ok (V : Vw) (A : Option Addr) (c : Nat) (key : ByteArray) (w : World) (h : VwIn w V A c) : Calls Tryd.prog 31 #[vwV V (.slice A V.ents.length c), .string key] w fun e w' => ∃ k : Int, e = .returned (.int .i64 k) ∧ AtIs V.ents key k ∧ Fr none_ w w' := by
  obtain ⟨w0, hw0⟩ : ∃ z, z = w.alloc (.cells (vwA V (.slice A V.ents.length c)) 52) := ⟨_, rfl⟩
  have f0 : Fr none_ w w0 := by rw [hw0]; exact (Fr.refl none_ w).alloc _
  have BV : Hid (Blk w0 w.heap.size 52 (vwA V (.slice A V.ents.length c))) := hid_ (by rw [hw0]; exact Blk.new w _ _)
  have F0 := hid_ f0
  have HI := hid_ (h.keep f0)
  have h1000 := h.ok.ents.1
  clear h f0
  go_enter Tryd.func31, Tryd.ntmps31
  go_upto_region 1 with fail
  change Code.wp _ _ _ _ (w.alloc (.cells (vwA V (.slice A V.ents.length c)) 52))
  rw [← hw0]
  clear hw0
  go_wp2_with fail
  go_loopw [5] (fun i wr => ∃ k : Nat, k ≤ V.ents.length ∧ i = .int .i64 k ∧ (∀ (j : Nat) (p : Et), j < k → V.ents[j]? = some p → p.1 ≠ key) ∧ w0 = wr) (fun i _ => V.ents.length - (intOf i).toNat)
  case atStart => exact ⟨0, Nat.zero_le _, rfl, fun j p hj => by omega, rfl⟩
  case round =>
    obtain ⟨k, hk, rfl, hall, rfl⟩ := hrel
    have HA := hid_ hall
    have hi0 : (0 : Int) ≤ (k : Int) := Int.natCast_nonneg _
    have v4 : w0.cell? ⟨w.heap.size, 4, none⟩ = some (.slice A V.ents.length c) := BV.out.cell' rfl
    clear hall
    by_cases hlt : k < V.ents.length
    · obtain ⟨q, hq⟩ : ∃ q, V.ents[k]? = some q := ⟨_, List.getElem?_eq_getElem hlt⟩
      have HQ := hid_ hq
      obtain ⟨b, off, rfl, hb, d0, d1⟩ := et_at HI.out.rd hq
      have hi1 : (k : Int) < (V.ents.length : Int) := by omega
      clear hq d1
      cases hc : sEq q.1 key with
      | true =>
        have hd : (q.1.toList == key.toList) = true := hc
        have HC := hid_ (sEq_iff.1 hc)
        clear hc
        go_wp2_with fail
        go_ret
        exact ⟨(k : Int), rfl, .inl ⟨k, q, rfl, HQ.out, HC.out⟩, F0.out⟩
      | false =>
        have hd : (q.1.toList == key.toList) = false := hc
        have HC : Hid (q.1 ≠ key) := hid_ (fun e => by rw [sEq_iff.2 e] at hc; cases hc)
        clear hc
        go_wp2_with fail
        go_roundw
        case rel =>
          refine ⟨k + 1, by omega, by go_num, fun j p hj hp => ?_, by first | rfl | trivial⟩
          rcases Nat.lt_succ_iff_lt_or_eq.1 hj with h | rfl
          · exact HA.out j p h hp
          · obtain rfl := Option.some.inj (HQ.out.symm.trans hp)
            exact HC.out
        case measure => simp [intOf]; omega
    · have hi1 : ¬ (k : Int) < (V.ents.length : Int) := by omega
      go_wp2_with fail
      go_ret
      exact ⟨-1, rfl, .inr ⟨rfl, fun j p hp => HA.out j p (by have := (List.getElem?_eq_some_iff.1 hp).1; omega) hp⟩, F0.out⟩
/-- How many entries ahead are not behind a key. -/
def rdN : List Et → ByteArray → Nat
  | [], _ => 0
  | p :: t, key => if ltS key p.1 = false then rdN t key + 1 else 0
theorem rdN_is : ∀ {L : List Et} {key : ByteArray} {k : Nat}, k ≤ L.length → (∀ (j : Nat) (p : Et), j < k → L[j]? = some p → ltS key p.1 = false) → (∀ p, L[k]? = some p → ltS key p.1 = true) → rdN L key = k
  | [], key, k, hk, _, _ => by simp at hk; simp [rdN, hk]
  | q :: t, key, 0, _, _, h => by simp [rdN, h q rfl]
  | q :: t, key, k + 1, hk, h1, h2 => by
    rw [rdN, if_pos (h1 0 q (by omega) rfl), rdN_is (k := k) (by simpa using hk) (fun j p hj hp => h1 (j + 1) p (by omega) (by simpa using hp)) (fun p hp => h2 p (by simpa using hp))]
theorem Rising.tail {q : Et} {t : List Et} (h : Rising (q :: t)) : Rising t := fun j p r hp hr => h (j + 1) p r (by simpa using hp) (by simpa using hr)
theorem Rising.behind {q : Et} : ∀ {t : List Et}, Rising (q :: t) → ∀ p ∈ t, ltS q.1 p.1 = true
  | [], _, p, hp => by cases hp
  | r :: t, h, p, hp => by
    have h0 : ltS q.1 r.1 = true := h 0 q r rfl rfl
    rcases List.mem_cons.1 hp with rfl | hp
    · exact h0
    · exact ltS_trans h0 (Rising.behind h.tail p hp)
/-- Where keys rise, both ways of looking tell the same. -/
theorem ndN_rising : ∀ {L : List Et} {key : ByteArray}, Rising L → ndN L key = rdN L key
  | [], key, _ => rfl
  | q :: t, key, h => by
    have ih := ndN_rising (key := key) h.tail
    unfold ndN at ih ⊢
    rw [rdN, plN]
    rcases ltS_total q.1 key with h1 | h1 | h1
    · rw [if_pos h1, if_pos (ltS_asymm h1)]
      have ha : atB (q :: t) key = atB t key := by
        unfold atB
        rw [plN, if_pos h1]
        simp
      rw [ha]
      omega
    · subst h1
      have h0 : ltS q.1 q.1 = false := ltS_irrefl _
      have hat : atB (q :: t) q.1 = true := by
        have hz : plN (q :: t) q.1 = 0 := by rw [plN, if_neg (by rw [h0]; simp)]
        rw [atB_some (p := q) (by rw [hz]; rfl)]
        exact sEq_iff.2 rfl
      have hr : rdN t q.1 = 0 := by
        cases t with
        | nil => rfl
        | cons r t => rw [rdN, if_neg (by rw [h.behind r (by simp)]; simp)]
      rw [h0, hat, hr]
      simp
    · have h2 := ltS_asymm h1
      have hz : plN (q :: t) key = 0 := by rw [plN, if_neg (by rw [h2]; simp)]
      have hat : atB (q :: t) key = false := by
        rw [atB_some (p := q) (by rw [hz]; rfl)]
        cases hs : sEq q.1 key with
        | false => rfl
        | true => rw [sEq_iff.1 hs, ltS_irrefl] at h1; cases h1
      simp [hat, h1, h2]
theorem at_mem : ∀ {L : List Et}, Rising L → ∀ {p : Et}, p ∈ L → atB L p.1 = true
  | [], _, p, hp => by cases hp
  | q :: t, h, p, hp => by
    rcases List.mem_cons.1 hp with rfl | hp
    · have hz : plN (p :: t) p.1 = 0 := by rw [plN, if_neg (by rw [ltS_irrefl]; simp)]
      rw [atB_some (p := p) (by rw [hz]; rfl)]
      exact sEq_iff.2 rfl
    · have h1 := h.behind p hp
      have ih := at_mem h.tail hp
      have ha : atB (q :: t) p.1 = atB t p.1 := by
        unfold atB
        rw [plN, if_pos h1]
        simp
      rw [ha]; exact ih
theorem at_rising {L : List Et} {key : ByteArray} {k : Int} (h : Rising L) (ha : AtIs L key k) : atB L key = decide (0 ≤ k) := by
  rcases ha with ⟨i, p, rfl, hp, rfl⟩ | ⟨rfl, hno⟩
  · have : (decide ((0 : Int) ≤ (i : Int))) = true := by simp
    rw [this]
    exact at_mem h (List.mem_of_getElem? hp)
  · show atB L key = false
    cases hc : atB L key with
    | false => rfl
    | true =>
      have hlt := atB_lt hc
      obtain ⟨p, hp⟩ : ∃ p, L[plN L key]? = some p := ⟨_, List.getElem?_eq_getElem hlt⟩
      rw [atB_some hp] at hc
      exact absurd (sEq_iff.1 hc) (hno _ p hp)
end Go.Proofs.YtfoljojacakkeaaDoor

/- EpochBins' walk. -/
import Derived.Test.YtmindkphdakflaaTypes6b
namespace Go.Proofs.Ytmindkphdakflaa
open Go.RowKit
set_option maxRecDepth 100000
set_option linter.unusedVariables false

/-- Two rows of the call's own that a loop fills. -/
structure PartSt (w wr : World) (vo vr : Value) (Lo Lr : List It) : Prop where
  oo : wr.ownsRow w.heap.size 30 4 vo Lo.length (itFlat Lo)
  or : wr.ownsRow w.heap.size 30 4 vr Lr.length (itFlat Lr)
  ne : ∀ g, vo.ownBlock = some g → ¬ vr.ownBlock = some g
  fr : Fr none_ w wr
section
variable {w wr w2 : World} {vo vr v' : Value} {Lo Lr : List It} {p : It}
theorem PartSt.start (w : World) : PartSt w w (.slice none 0 0) (.slice none 0 0) [] [] := ⟨World.ownsRow_nil _ _ _ _, World.ownsRow_nil _ _ _ _, fun g e => by simp [Value.ownBlock] at e, Fr.refl _ _⟩
theorem PartSt.keep (h : PartSt w wr vo vr Lo Lr) (hf : Fr none_ wr w2) : PartSt w w2 vo vr Lo Lr := ⟨own_none h.oo hf, own_none h.or hf, h.ne, h.fr.then_none hf⟩
theorem PartSt.putO (h : PartSt w wr vo vr Lo Lr) (ho : w2.ownsRow w.heap.size 30 4 v' (Lo.length + 1) (itFlat Lo ++ itCells p)) (hg : wr.grownBy w2 vo.ownBlock) (hat : v'.ownBlock = vo.ownBlock ∨ v'.ownBlock = some wr.heap.size) :
    PartSt w w2 v' vr (Lo ++ [p]) Lr := by
  have F2 : Fr (fun b => vo.ownBlock = some b) wr w2 := (Fr.refl _ wr).grown hg (fun b hb => .inl hb)
  refine ⟨by have e1 : (Lo ++ [p]).length = Lo.length + 1 := by simp
             rw [e1, itFlat_snoc]; exact ho, own_fr h.or F2 (fun k hk e => h.ne k e hk), fun g e e2 => ?_, h.fr.trans F2 (fun _ _ e => e) (fun i hi e => by have := (h.oo.lt i e).1; omega)⟩
  rcases hat with hat | hat
  · rw [hat] at e; exact h.ne g e e2
  · rw [hat] at e
    have : wr.heap.size = g := by injection e
    have := (h.or.lt g e2).2
    omega
theorem PartSt.swap (h : PartSt w wr vo vr Lo Lr) : PartSt w wr vr vo Lr Lo := ⟨h.or, h.oo, fun g e e2 => h.ne g e2 e, h.fr⟩
theorem PartSt.putR (h : PartSt w wr vo vr Lo Lr) (ho : w2.ownsRow w.heap.size 30 4 v' (Lr.length + 1) (itFlat Lr ++ itCells p)) (hg : wr.grownBy w2 vr.ownBlock) (hat : v'.ownBlock = vr.ownBlock ∨ v'.ownBlock = some wr.heap.size) :
    PartSt w w2 vo v' Lo (Lr ++ [p]) := (h.swap.putO ho hg hat).swap
end

theorem stay_le (o : Int) (L : List It) : (stayOf o L).length ≤ L.length := List.length_filter_le _ _

set_option maxHeartbeats 4000000 in
theorem bins6_walk (A : Option Addr) (n c : Nat) (A2 : Option Addr) (m c2 : Nat) (L : List It) (N : List Int) (w : World) (hL : ItReads w A n L) (hN : NumReads w A2 m N) (hnc : n ≤ c) (hcm : c ≤ maxLen) (hmc : m ≤ c2) (hcm2 : c2 ≤ maxLen) :
    Calls Try.prog 3 #[.slice A n c, .slice A2 m c2] w fun e w' => e = .returned (.bool true) ∧ Fr none_ w w' := by
  unfold maxLen at hcm hcm2
  by_cases hn : 200 < n
  · go_enter Try.func3, Try.ntmps3
    go_wp2_with (go_at_call 5; refine (awake6 _).mono ?_; rintro e w1 ⟨rfl, hf1⟩)
    go_ret
    exact ⟨rfl, hf1⟩
  by_cases hm : 200 < m
  · go_enter Try.func3, Try.ntmps3
    go_wp2_with (go_at_call 5; refine (awake6 _).mono ?_; rintro e w1 ⟨rfl, hf1⟩)
    go_ret
    exact ⟨rfl, hf1⟩
  obtain ⟨i0, hi0, hz0, hs0, hb0⟩ := info_parts item_info
  have Hi := hid_ (And.intro hi0 (And.intro hz0 (And.intro hs0 hb0)))
  have HL := hid_ hL
  have HN := hid_ hN
  have hn' : n ≤ 200 := by omega
  have hm' : m ≤ 200 := by omega
  clear hi0 hz0 hs0 hb0 hL hN hn hm
  go_enter Try.func3, Try.ntmps3
  go_wp2_with fail
  go_loopw [30] (fun i wr => ∃ (k : Nat) (Av : Option Addr) (cv : Nat), k ≤ n ∧ i = .int .i64 k ∧ Bn wr w.heap.size (.slice Av (L.take k).length cv) (L.take k) ∧ Fr none_ w wr) (fun i _ => n - (intOf i).toNat)
  case atStart => exact ⟨0, none, 0, Nat.zero_le _, rfl, ⟨Blk.new w _ _, World.ownsRow_nil _ _ _ _⟩, (Fr.refl none_ w).alloc _⟩
  case round =>
    obtain ⟨k, Av, cv, hk, rfl, hB, hF⟩ := hrel
    have B := hid_ hB
    have F := hid_ hF
    clear hB hF
    by_cases hlt : k < n
    · obtain ⟨b, off, p, rfl, hb, hp, e0, e1, e2, e3⟩ := (HL.out.fr F.out).at hlt
      have Hp := hid_ hp
      have hlen : Hid ((L.take k).length ≤ 1000) := hid_ (by have := List.length_take_le k L; omega)
      clear hp
      go_wp2_with fail
      refine (binAdd_ok w.heap.size Av cv (L.take k) p.1 p.2.1 p.2.2.1 p.2.2.2 _ ⟨B.out.hB.alloc _, own_none B.out.own ((Fr.refl none_ wr).alloc _)⟩ hlen.out).mono ?_
      rintro e w2 ⟨v', rfl, hB2, hf2⟩
      have ht : L.take k ++ [(p.1, p.2.1, p.2.2.1, p.2.2.2)] = L.take (k + 1) := by rw [List.take_add_one, Hp.out]; rfl
      rw [ht] at hB2
      obtain ⟨Av', cv', rfl⟩ := hB2.own.shape
      have B2 := hid_ hB2
      have F2 := hid_ ((F.out.alloc (.cells #[.int .i64 p.1, .int .i64 p.2.1, .int .i64 p.2.2.1, .int .i64 p.2.2.2] 30)).then_only hf2 (.inr (Nat.le_refl _)))
      clear ht hB2 hf2
      go_wp2
      go_roundw
      case rel => exact ⟨k + 1, Av', cv', by omega, by go_num, B2.out, F2.out⟩
      case measure => simp [intOf]; omega
    · obtain rfl : k = n := by omega
      have ht : L.take k = L := by rw [← HL.out.1]; exact List.take_length
      rw [ht] at B
      have hLl : L.length = k := HL.out.1
      subst hLl
      clear ht
      have hsrc : Hid (Reads (wr.alloc (.cells #[] 30)) 4 A L.length (itFlat L)) := hid_ ((HL.out.fr F.out).reads.alloc _)
      go_wp2_with (at_builtin; refine wpList_append_any _ rfl (.tmp 37) (.tmp 38) 22 rfl wr.heap.size 30 i0 _ 4 32 Try.underlying22 Hi.out.1 Hi.out.2.1 Hi.out.2.2.1 Hi.out.2.2.2 rfl (by omega) (.slice (some ⟨wr.heap.size, 0, none⟩) 0 0) 0 [] rfl (own_empty_at _ _ _ _ _ (Nat.le_refl _) rfl) A L.length c (itFlat L) rfl hsrc.out (itFlat_one L) (by simp only [maxLen]; omega) (by omega) (by simp) ?_; intro A8 c8 w3 hown3 hgr3; simp only [Nat.zero_add, List.nil_append] at hown3; have F3 := hid_ (((Fr.refl none_ wr).alloc (.cells #[] 30)).grown hgr3 (fun k hk => .inr (by simp [Value.ownBlock] at hk; omega))); have O3 := hid_ hown3; clear hown3 hgr3)
      have F0 := hid_ (F.out.then_none F3.out)
      have B0 : Hid (Bn w3 w.heap.size (.slice Av L.length cv) L) := hid_ ⟨B.out.hB.fr F3.out id, own_none B.out.own F3.out⟩
      have O0 := hid_ (own_base O3.out (Nat.zero_le _))
      clear F B F3 O3 hsrc
      go_loopw [42, 8] (fun i r wr => ∃ (k : Nat) (R : List It) (Av : Option Addr) (cv : Nat) (A8 : Option Addr) (c8 : Nat), k ≤ m ∧ i = .int .i64 k ∧ r = .slice A8 R.length c8 ∧ R.length ≤ 200 ∧ IOwn wr (.slice A8 R.length c8) R ∧ Bn wr w.heap.size (.slice Av R.length cv) R ∧ Fr none_ w wr) (fun i _ _ => m - (intOf i).toNat)
      case atStart => exact ⟨0, L, Av, cv, A8, c8, Nat.zero_le _, rfl, rfl, hn', O0.out, B0.out, F0.out⟩
      case round =>
        clear F0 B0 O0 hk hlt
        obtain ⟨k, R, Av, cv, A8, c8, hk, rfl, rfl, hR, hO, hB, hF⟩ := hrel
        have B := hid_ hB
        have F := hid_ hF
        have O := hid_ hO
        clear hB hF hO
        by_cases hlt : k < m
        · obtain ⟨b2, off2, x, rfl, hb, hp, e0⟩ := (HN.out.fr F.out).at hlt
          clear hp
          go_wp2_with fail
          refine (binRipe_ok w.heap.size Av cv R x _ B.out (by omega)).mono ?_
          rintro e w4 ⟨Ag, cg, Ab, cb, rfl, hog, hB4, hf4⟩
          have F4 := hid_ (F.out.then_only hf4 (.inr (Nat.le_refl _)))
          have B4 := hid_ hB4
          have G4 := hid_ hog
          have O4 := hid_ (own_fr O.out hf4 (fun k hk e => own_blk_ne O.out B.out.hB (by decide) (by rw [hk, show k = w.heap.size from e])))
          clear hog hB4 hf4 e0
          go_wp2_with fail
          go_loopw [50, 12, 13] (fun i a b wx => ∃ (k3 : Nat) (Ao : Option Addr) (co : Nat) (Ar : Option Addr) (cr : Nat), k3 ≤ R.length ∧ i = .int .i64 k3 ∧ a = .slice Ao (ripeOf x (R.take k3)).length co ∧ b = .slice Ar (stayOf x (R.take k3)).length cr ∧ PartSt w4 wx (.slice Ao (ripeOf x (R.take k3)).length co) (.slice Ar (stayOf x (R.take k3)).length cr) (ripeOf x (R.take k3)) (stayOf x (R.take k3))) (fun i _ _ _ => R.length - (intOf i).toNat)
          case atStart => exact ⟨0, none, 0, none, 0, Nat.zero_le _, rfl, rfl, rfl, PartSt.start w4⟩
          case round =>
            obtain ⟨k3, Ao, co, Ar, cr, hk3, rfl, rfl, rfl, hP⟩ := hrel
            obtain ⟨wx, rfl⟩ : ∃ wx : World, wx = wr := ⟨_, rfl⟩
            obtain ⟨Lo, hLo⟩ : ∃ q, q = ripeOf x (R.take k3) := ⟨_, rfl⟩
            obtain ⟨Lr, hLr⟩ : ∃ q, q = stayOf x (R.take k3) := ⟨_, rfl⟩
            have hl := ripe_le x R k3
            simp only [← hLo, ← hLr] at hP hl ⊢
            have P := hid_ hP
            have HLo := hid_ hLo
            have HLr := hid_ hLr
            clear hP hLo hLr
            by_cases hlt3 : k3 < R.length
            · obtain ⟨p, hp⟩ : ∃ p, R[k3]? = some p := ⟨_, List.getElem?_eq_getElem hlt3⟩
              have Hp := hid_ hp
              clear hp
              obtain ⟨g8, rfl, hg8, e0, e1, e2, e3⟩ := it_cell (own_none O4.out P.out.fr) Hp.out
              have P2 := hid_ ((P.out.keep ((Fr.refl none_ wx).alloc (.cells #[.int .i64 p.1, .int .i64 p.2.1, .int .i64 p.2.2.1, .int .i64 p.2.2.2] 30))).keep ((Fr.refl none_ _).alloc (.cells #[.int .i64 p.1, .int .i64 p.2.1, .int .i64 p.2.2.1, .int .i64 p.2.2.2] 30)))
              by_cases hr : p.1 < x
              · have Hr := hid_ hr
                go_wp2_with (at_builtin; refine wpList_append_at _ rfl (.tmp 58) (.tmp 60) 22 rfl w4.heap.size 30 i0 _ 4 32 Try.underlying22 Hi.out.1 Hi.out.2.1 Hi.out.2.2.1 Hi.out.2.2.2 rfl (by omega) (.slice Ao Lo.length co) Lo.length (itFlat Lo) rfl P2.out.oo (some ⟨wx.heap.size + 1, 0, none⟩) 1 1 (itCells p) rfl (reads_new (wx.alloc (.cells #[.int .i64 p.1, .int .i64 p.2.1, .int .i64 p.2.2.1, .int .i64 p.2.2.2] 30)) _ (itCells p) _ (by simp)) (by simp [itCells, Value.oneCell']) (by simp only [maxLen]; omega) (by omega) (by have := P2.out.fr.size; simp at this; simp; omega) ?_; intro v' w6 hown6 hgr6 hat6; obtain ⟨Av', cv', rfl⟩ := hown6.shape; have P6 := hid_ (P2.out.putO hown6 hgr6 hat6); clear hown6 hgr6 hat6)
                have e1 := ripe_hit Hp.out Hr.out
                rw [← HLo.out, ← HLr.out] at e1
                have E1 := hid_ e1
                clear e1
                go_roundw
                case rel =>
                  have q := P6.out
                  refine ⟨k3 + 1, Av', cv', Ar, cr, by omega, by go_num, ?_, ?_, ?_⟩
                  · rw [E1.out.1]; simp
                  · rw [E1.out.2]
                  · rw [E1.out.1, E1.out.2]; simpa using q
                case measure => simp [intOf]; omega
              · have Hr := hid_ hr
                go_wp2_with (at_builtin; refine wpList_append_at _ rfl (.tmp 62) (.tmp 64) 22 rfl w4.heap.size 30 i0 _ 4 32 Try.underlying22 Hi.out.1 Hi.out.2.1 Hi.out.2.2.1 Hi.out.2.2.2 rfl (by omega) (.slice Ar Lr.length cr) Lr.length (itFlat Lr) rfl P2.out.or (some ⟨wx.heap.size + 1, 0, none⟩) 1 1 (itCells p) rfl (reads_new (wx.alloc (.cells #[.int .i64 p.1, .int .i64 p.2.1, .int .i64 p.2.2.1, .int .i64 p.2.2.2] 30)) _ (itCells p) _ (by simp)) (by simp [itCells, Value.oneCell']) (by simp only [maxLen]; omega) (by omega) (by have := P2.out.fr.size; simp at this; simp; omega) ?_; intro v' w6 hown6 hgr6 hat6; obtain ⟨Av', cv', rfl⟩ := hown6.shape; have P6 := hid_ (P2.out.putR hown6 hgr6 hat6); clear hown6 hgr6 hat6)
                have e1 := ripe_miss Hp.out Hr.out
                rw [← HLo.out, ← HLr.out] at e1
                have E1 := hid_ e1
                clear e1
                go_roundw
                case rel =>
                  have q := P6.out
                  refine ⟨k3 + 1, Ao, co, Av', cv', by omega, by go_num, ?_, ?_, ?_⟩
                  · rw [E1.out.1]
                  · rw [E1.out.2]; simp
                  · rw [E1.out.1, E1.out.2]; simpa using q
                case measure => simp [intOf]; omega
            · obtain rfl : k3 = R.length := by omega
              rw [List.take_length] at HLo HLr
              have hLo := HLo.out
              have hLr := HLr.out
              subst hLo
              subst hLr
              go_wp2_with fail
              refine (binItems_ok w.heap.size Ab cb (stayOf x R) _ ⟨B4.out.hB.fr P.out.fr id, own_none B4.out.own P.out.fr⟩ (by have := stay_le x R; omega)).mono ?_
              rintro e w7 ⟨Ai, ci, rfl, hoi, hf7⟩
              have P7 := hid_ (P.out.keep hf7)
              have F7 := hid_ ((F4.out.then_none P.out.fr).then_none hf7)
              have B7 : Hid (Bn w7 w.heap.size (.slice Ab (stayOf x R).length cb) (stayOf x R)) := hid_ ⟨(B4.out.hB.fr P.out.fr id).fr hf7 id, own_none (own_none B4.out.own P.out.fr) hf7⟩
              have I7 := hid_ hoi
              have hI : ∀ g, (Value.slice Ai (stayOf x R).length ci).ownBlock = some g → wx.heap.size ≤ g := fun g e => (hoi.lt g e).1
              have HI := hid_ hI
              have G7 := hid_ (own_none (own_none G4.out P.out.fr) hf7)
              clear hoi hf7 hI
              go_wp2_with fail
              refine (binLen_ok w.heap.size Ab cb (stayOf x R) _ B7.out).mono ?_
              rintro e w8 ⟨rfl, rfl⟩
              go_wp2_with fail
              go_loopw [89] (fun i wy => ∃ k4 : Nat, k4 ≤ (ripeOf x R).length ∧ i = .int .i64 k4 ∧ Fr none_ w7 wy) (fun i _ => (ripeOf x R).length - (intOf i).toNat)
              case atStart => exact ⟨0, Nat.zero_le _, rfl, Fr.refl _ _⟩
              case round =>
                obtain ⟨k4, hk4, rfl, hf4⟩ := hrel
                obtain ⟨wy, rfl⟩ : ∃ wy : World, wy = wr := ⟨_, rfl⟩
                have F8 := hid_ hf4
                clear hf4
                by_cases hlt4 : k4 < (ripeOf x R).length
                · obtain ⟨p, hp⟩ : ∃ p, (ripeOf x R)[k4]? = some p := ⟨_, List.getElem?_eq_getElem hlt4⟩
                  obtain ⟨g1, rfl, hg1, a0, a1, a2, a3⟩ := it_cell (own_none G7.out F8.out) hp
                  obtain ⟨g2, rfl, hg2, b0, b1, b2, b3⟩ := it_cell (own_none P7.out.oo F8.out) hp
                  clear hp
                  go_wp2_with fail
                  go_quiet (fail)
                  have FQ := hid_ (F8.out.drewN nq)
                  clear a0 a1 a2 a3 b0 b1 b2 b3
                  go_wp2
                  go_roundw
                  case rel => exact ⟨k4 + 1, by omega, by go_num, FQ.out⟩
                  case measure => simp [intOf]; omega
                · obtain rfl : k4 = (ripeOf x R).length := by omega
                  go_wp2_with fail
                  have or9 := hid_ P.out.or
                  have ob9 : Hid (∀ g, (Value.slice Ab (stayOf x R).length cb).ownBlock = some g → g < wx.heap.size) := hid_ (fun g e => by have := (B4.out.own.lt g e).2; have := P.out.fr.size; omega)
                  have lw : w.heap.size < wx.heap.size := by have := B4.out.hB.lt; have := P.out.fr.size; omega
                  go_loopw [104] (fun i wz => ∃ k5 : Nat, k5 ≤ (stayOf x R).length ∧ i = .int .i64 k5 ∧ Fr (fun b => wx.heap.size ≤ b) wy wz ∧ (0 < (stayOf x R).length → ∃ (g : Nat) (cs : Array Value), Ai = some ⟨g, 0, none⟩ ∧ wx.heap.size ≤ g ∧ Blk wz g 30 cs ∧ ∀ j u, k5 * 4 ≤ j → (itFlat (stayOf x R))[j]? = some u → cs[j]? = some u)) (fun i _ => (stayOf x R).length - (intOf i).toNat)
                  case atStart =>
                    refine ⟨0, Nat.zero_le _, rfl, Fr.refl _ _, fun hn0 => ?_⟩
                    have hw := own_none I7.out F8.out
                    rcases hw.2 with ⟨e, h0⟩ | ⟨g, cap, cur, e, _, hh, _⟩
                    · omega
                    · injection e with e1 e2 e3
                      subst e1
                      exact ⟨g, cur, rfl, HI.out g rfl, hh, fun j u _ hu => by
                        have := hw.cells (g := g) rfl j u hu
                        rw [add_lit, Nat.zero_add, Blk.cell (w := wy) (t := 30) (cs := cur) hh j] at this
                        exact this⟩
                  case round =>
                    obtain ⟨k5, hk5, rfl, hf9, hi9⟩ := hrel
                    obtain ⟨wz, rfl⟩ : ∃ wz : World, wz = wr := ⟨_, rfl⟩
                    have F9 := hid_ hf9
                    have R9 := hid_ (own_fr (own_none P7.out.or F8.out) hf9 (fun k hk e => by have := (or9.out.lt k hk).2; have : wx.heap.size ≤ k := e; omega))
                    have HI9 := hid_ hi9
                    clear hf9 hi9
                    by_cases hlt5 : k5 < (stayOf x R).length
                    · obtain ⟨p, hp⟩ : ∃ p, (stayOf x R)[k5]? = some p := ⟨_, List.getElem?_eq_getElem hlt5⟩
                      obtain ⟨g2, rfl, hg2, b0, b1, b2, b3⟩ := it_cell R9.out hp
                      obtain ⟨g, cs, rfl, hge, hbk, hcs⟩ := HI9.out (by omega)
                      obtain ⟨d0, d1, d2, d3⟩ := itFlat_get _ k5 p hp
                      have a0 : wz.cell? ⟨g, k5 * 4, none⟩ = some (.int .i64 p.1) := hbk.cell' (hcs _ _ (by omega) d0)
                      have a1 : wz.cell? ⟨g, k5 * 4 + 1, none⟩ = some (.int .i64 p.2.1) := hbk.cell' (hcs _ _ (by omega) d1)
                      have a2 : wz.cell? ⟨g, k5 * 4 + 1 + 1, none⟩ = some (.int .i64 p.2.2.1) := hbk.cell' (hcs _ _ (by omega) d2)
                      have a3 : wz.cell? ⟨g, k5 * 4 + 1 + 1 + 1, none⟩ = some (.int .i64 p.2.2.2) := hbk.cell' (hcs _ _ (by omega) d3)
                      have K := hid_ hbk
                      have Hcs := hid_ hcs
                      clear hp d0 d1 d2 d3 hbk hcs
                      go_wp2_with fail
                      go_quiet (fail)
                      have KQ := hid_ (K.out.drewN nq)
                      have FQ := hid_ (F9.out.drewN nq)
                      have z0 := K.out.frozen (k5 * 4)
                      clear a1 a2 a3 b0 b1 b2 b3
                      go_wp2_with fail
                      go_roundw
                      case rel =>
                        refine ⟨k5 + 1, by omega, by go_num, FQ.out.setCell (p := ⟨g, k5 * 4, none⟩) (.inl hge) _, fun _ => ⟨g, _, rfl, hge, KQ.out.set_ (k5 * 4) _, fun j u hj hu => ?_⟩⟩
                        rw [Array.getElem?_setIfInBounds_ne (by omega)]
                        exact Hcs.out j u (by omega) hu
                      case measure => simp [intOf]; omega
                    · obtain rfl : k5 = (stayOf x R).length := by omega
                      go_wp2_with fail
                      have fin : Fr none_ w wz := (F7.out.then_none F8.out).trans F9.out (fun _ _ e => e) (fun i hi e => by have : wx.heap.size ≤ i := e; omega)
                      have bn : Bn wz w.heap.size (.slice Ab (stayOf x R).length cb) (stayOf x R) := ⟨(B7.out.hB.fr F8.out id).fr F9.out (fun e => by have : wx.heap.size ≤ w.heap.size := e; omega), own_fr (own_none B7.out.own F8.out) F9.out (fun k hk e => by have := ob9.out k hk; have : wx.heap.size ≤ k := e; omega)⟩
                      have hsl := stay_le x R
                      have FIN := hid_ fin
                      have BN := hid_ bn
                      clear fin bn
                      go_roundw
                      case rel => exact ⟨k + 1, stayOf x R, Ab, cb, Ar, cr, by omega, by go_num, rfl, by omega, own_base R9.out (Nat.zero_le _), BN.out, FIN.out⟩
                      case measure => simp [intOf]; omega
        · obtain rfl : k = m := by omega
          go_wp2_with (go_at_call 5; refine (awake6 _).mono ?_; rintro e w4 ⟨rfl, hf4⟩)
          go_ret
          exact ⟨rfl, F.out.then_none hf4⟩
theorem bins6_walk_i (A : Option Addr) (n c : Nat) (hnc : n ≤ c) (hcm : c ≤ maxLen) (A2 : Option Addr) (m c2 : Nat) (hmc : m ≤ c2) (hcm2 : c2 ≤ maxLen) (w : World) (h1 : ItemAt w A n) (h2 : ∃ N, NumReads w A2 m N) :
    Calls Try.prog 3 #[.slice A n c, .slice A2 m c2] w fun e w' => e = .returned (.bool true) ∧ Fr none_ w w' := by
  obtain ⟨L, hL⟩ := items_of h1
  obtain ⟨N, hN⟩ := h2
  exact bins6_walk A n c A2 m c2 L N w hL hN hnc hcm hmc hcm2
end Go.Proofs.Ytmindkphdakflaa

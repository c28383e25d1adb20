/- own: a chain in memory of its own, by contract. Written by gen_own8.py. -/
import Derived.Test.YtphlfocdljihlaaFold
import Derived.Test.YtphlfocdljihlaaCloneB
namespace Go.Proofs.Ytphlfocdljihlaa
open Go.RowKit Go.BigFrame
set_option maxRecDepth 100000
set_option linter.unusedVariables false

def recFlat (L : List Ch) : List Value := (L.map recL).flatten
theorem recFlat_len (L : List Ch) : (recFlat L).length = L.length * 15 := by
  unfold recFlat
  induction L with
  | nil => rfl
  | cons p t ih => simp at ih ⊢; omega
theorem recFlat_app (L M : List Ch) : recFlat (L ++ M) = recFlat L ++ recFlat M := by simp [recFlat]
theorem recFlat_get : ∀ (L : List Ch) (i : Nat) (C : Ch), L[i]? = some C → ∀ (j : Nat) (v : Value), (recL C)[j]? = some v → (recFlat L)[i * 15 + j]? = some v
  | [], i, C, h, _, _, _ => by simp at h
  | q :: L, 0, C, h, j, v, hv => by
    obtain rfl : q = C := by simpa using h
    have hj : j < (recL q).length := (List.getElem?_eq_some_iff.1 hv).1
    show (recL q ++ recFlat L)[0 * 15 + j]? = some v
    rw [show 0 * 15 + j = j by omega, List.getElem?_append_left hj]
    exact hv
  | q :: L, i + 1, C, h, j, v, hv => by
    have := recFlat_get L i C (by simpa using h) j v hv
    show (recL q ++ recFlat L)[(i + 1) * 15 + j]? = some v
    rw [List.getElem?_append_right (by simp; omega)]
    simp only [List.length_cons, List.length_nil]
    rw [show (i + 1) * 15 + j - (0 + 1 + 1 + 1 + 1 + 1 + 1 + 1 + 1 + 1 + 1 + 1 + 1 + 1 + 1 + 1) = i * 15 + j by omega]
    exact this
theorem record_info : (Try.prog.info? 39).map (fun i => (i.zero, i.size, i.bytes)) = some (some (.agg recZ8), 15, 192) := by kernel_rfl
/-- A record of the call's own. -/
structure ChOwn (w : World) (C : Ch) : Prop where
  own : RecOwn w 0 C.R (.slice C.A C.R.rows.length C.c) (.slice C.B C.R.ents.length C.d)
  low : SzOk C.R.low
  high : SzOk C.R.high
  key : SzOk C.R.key
  hkey : SzOk C.R.hkey
  ents : EtsOk C.R.ents
theorem ChOwn.ok {w : World} {C : Ch} (h : ChOwn w C) : ChOk w C := by
  obtain ⟨A', c', e, h1, h2, _⟩ := own_parts h.own.e
  have e1 : C.B = A' ∧ C.d = c' := by injection e with e1 e2 e3; exact ⟨e1, e3⟩
  exact ⟨h.own.reads, h.low, h.high, h.key, h.hkey, h.ents, by rw [e1.2]; exact h1, by rw [e1.2]; exact h2⟩
theorem ChOwn.keep {w w' : World} {C : Ch} (h : ChOwn w C) (hf : Fr none_ w w') : ChOwn w' C := ⟨h.own.keep hf, h.low, h.high, h.key, h.hkey, h.ents⟩
theorem ChOwn.beside {w w' : World} {C : Ch} (h : ChOwn w C) {base n : Nat} {v : Value} {xs : List Value} (ho : w.ownsRow base 39 15 v n xs) (hg : w.grownBy w' v.ownBlock) : ChOwn w' C := by
  refine ⟨?_, h.low, h.high, h.key, h.hkey, h.ents⟩
  have hf : Fr (fun k => v.ownBlock = some k) w w' := (Fr.refl _ w).grown hg (fun k hk => .inl hk)
  exact h.own.fr hf (fun k hk e => own_own_ne h.own.r ho (by decide) k hk e) (fun k hk e => own_own_ne h.own.e ho (by decide) k hk e)
/-- A row of records of the call's own, read as a chain. -/
theorem chReads_own {w : World} {base n c : Nat} {A : Option Addr} {Cs : List Ch} (ho : w.ownsRow base 39 15 (.slice A n c) n (recFlat Cs)) (hn : Cs.length = n) (hc : ∀ C ∈ Cs, ChOk w C) : ChReads w A n Cs := by
  refine ⟨hn, fun h0 => ?_⟩
  obtain ⟨A', c', e, _, _, hp⟩ := own_parts ho
  have e1 : A = A' := by injection e
  obtain ⟨g, hg, hl, hcell⟩ := hp h0
  refine ⟨g, 0, by rw [e1, hg], hl, fun k C hC => ⟨fun j v hv => ?_, hc C (List.mem_of_getElem? hC)⟩⟩
  have := hcell (k * 15 + j) v (recFlat_get Cs k C hC j v hv)
  rw [Nat.zero_add]
  exact this
def OwnPost (L : List Ch) (w : World) (e : Ending) (w' : World) : Prop :=
  ∃ A c Cs, e = .returned (.slice A L.length c) ∧ Cs.map (·.R) = L.map (·.R) ∧ w'.ownsRow w.heap.size 39 15 (.slice A L.length c) L.length (recFlat Cs) ∧ (∀ C ∈ Cs, ChOwn w' C) ∧ Fr none_ w w'
set_option maxHeartbeats 4000000 in
theorem own8_ok (A : Option Addr) (n cap : Nat) (L : List Ch) (w : World) (h : ChReads w A n L) (hn : n ≤ 400) (hr : ∀ C ∈ L, C.R.rows.length ≤ 4398046511104) :
    Calls Try.prog 11 #[.slice A n cap] w (OwnPost L w) := by
  obtain ⟨i0, hi0, hz0, hs0, hb0⟩ := info_parts record_info
  have Hi := hid_ (And.intro hi0 (And.intro hz0 (And.intro hs0 hb0)))
  have hln := h.1
  have H := hid_ h
  have HRO := hid_ hr
  clear hi0 hz0 hs0 hb0 h hr
  go_enter Try.func11, Try.ntmps11
  go_wp2_with fail
  go_loopw [3, 8] (fun v i wr => ∃ (k : Nat) (Cs : List Ch), k ≤ n ∧ i = .int .i64 k ∧ Cs.length = k ∧ Cs.map (·.R) = (L.take k).map (·.R) ∧ wr.ownsRow w.heap.size 39 15 v k (recFlat Cs) ∧ (∀ C ∈ Cs, ChOwn wr C) ∧ Fr none_ w wr) (fun _ i _ => n - (intOf i).toNat)
  case atStart => exact ⟨0, [], Nat.zero_le _, rfl, rfl, rfl, World.ownsRow_nil _ _ _ _, fun C hC => by simp at hC, Fr.refl _ _⟩
  case round =>
    obtain ⟨k, Cs, hk, rfl, hcl, hcm, hown, hcs, hF⟩ := hrel
    obtain ⟨oA, oc, rfl⟩ := hown.shape
    have HCL := hid_ hcl
    have HCM := hid_ hcm
    have O := hid_ hown
    have HCS := hid_ hcs
    have F := hid_ hF
    clear hcl hcm hown hcs hF
    have hi0 : (0 : Int) ≤ (k : Int) := Int.natCast_nonneg _
    by_cases hlt : k < n
    · obtain ⟨C, hC⟩ : ∃ C, L[k]? = some C := ⟨_, List.getElem?_eq_getElem (by omega)⟩
      obtain ⟨b, off, rfl, hb, hR, hO⟩ := (H.out.keep F.out).at_ hC
      have hi1 : (k : Int) < (n : Int) := by omega
      have HR := hid_ hR
      have HO := hid_ hO
      have HC := hid_ hC
      have hrow := HRO.out C (List.mem_of_getElem? hC)
      have hent := hO.ents.1
      clear hR hO hC
      go_upto_region 5 with (first | (refine wpList_load_mid rfl 39 (.tmp 10) rfl b (off + k * 15) rfl (recL C) _ HR.out Try.underlying39 rfl rec_size8 ?_) | (refine wpList_store_mid rfl 39 (.tmp 5) (.tmp 11) rfl wr.heap.size 0 (recL C).toArray rfl rfl (new_there wr _ recZ8) rec_size8 (rec_one C) ?_; obtain ⟨w1, hw1⟩ : ∃ w1, w1 = (wr.alloc (.cells recZ8 39)).setCells wr.heap.size 0 (recL C) := ⟨_, rfl⟩; change wpList _ _ _ _ _ ((wr.alloc (.cells recZ8 39)).setCells wr.heap.size 0 (recL C)); rw [← hw1]; have P1 : Hid (Blk w1 wr.heap.size 39 (recL C).toArray ∧ Fr none_ wr w1) := hid_ (by rw [hw1]; exact new_copy wr _ recZ8 _ rfl); clear hw1))
      have hf1 := P1.out.2.size
      have g0 : w1.cell? ⟨wr.heap.size, 0, none⟩ = some (.int .i64 C.R.kind) := P1.out.1.cell' rfl
      have g1 : w1.cell? ⟨wr.heap.size, 1, none⟩ = some (.string C.R.low) := P1.out.1.cell' rfl
      have g2 : w1.cell? ⟨wr.heap.size, 2, none⟩ = some (.string C.R.high) := P1.out.1.cell' rfl
      have g3 : w1.cell? ⟨wr.heap.size, 3, none⟩ = some (.bool C.R.unb) := P1.out.1.cell' rfl
      have g4 : w1.cell? ⟨wr.heap.size, 4, none⟩ = some (.int .i64 C.R.right) := P1.out.1.cell' rfl
      have g5 : w1.cell? ⟨wr.heap.size, 5, none⟩ = some (.slice C.A C.R.rows.length C.c) := P1.out.1.cell' rfl
      have g6 : w1.cell? ⟨wr.heap.size, 6, none⟩ = some (.slice C.B C.R.ents.length C.d) := P1.out.1.cell' rfl
      have g7 : w1.cell? ⟨wr.heap.size, 7, none⟩ = some (.string C.R.key) := P1.out.1.cell' rfl
      have g8 : w1.cell? ⟨wr.heap.size, 8, none⟩ = some (.string C.R.val) := P1.out.1.cell' rfl
      have g9 : w1.cell? ⟨wr.heap.size, 9, none⟩ = some (.int .i64 C.R.page) := P1.out.1.cell' rfl
      have g10 : w1.cell? ⟨wr.heap.size, 10, none⟩ = some (.int .i64 C.R.hpage) := P1.out.1.cell' rfl
      have g11 : w1.cell? ⟨wr.heap.size, 11, none⟩ = some (.int .i64 C.R.hleft) := P1.out.1.cell' rfl
      have g12 : w1.cell? ⟨wr.heap.size, 12, none⟩ = some (.string C.R.hkey) := P1.out.1.cell' rfl
      have g13 : w1.cell? ⟨wr.heap.size, 13, none⟩ = some (.int .i64 C.R.nslot) := P1.out.1.cell' rfl
      have g14 : w1.cell? ⟨wr.heap.size, 14, none⟩ = some (.int .i64 C.R.ngen) := P1.out.1.cell' rfl
      go_wp2_with fail
      refine (clone_big C.R C.A C.c C.B C.d _ (HO.out.rd.keep P1.out.2) hrow hent).mono ?_
      rintro e w2 ⟨A1, c1, B1, d1, rfl, hro, hf2⟩
      have RO := hid_ (hro.base (Nat.zero_le _))
      have F2 := hid_ (P1.out.2.then_none hf2)
      have hs2 := (F.out.then_none F2.out).size
      have O2 := hid_ (own_none O.out F2.out)
      clear hro hf2 g0 g1 g2 g3 g4 g5 g6 g7 g8 g9 g10 g11 g12 g13 g14
      obtain ⟨C', hC'⟩ : ∃ C' : Ch, C' = ⟨C.R, A1, c1, B1, d1⟩ := ⟨_, rfl⟩
      have HC' := hid_ hC'
      clear hC'
      go_wp2_with (at_builtin; refine wpList_append_any _ rfl (.tmp 12) (.tmp 15) 22 rfl w.heap.size 39 i0 _ 15 192 Try.underlying22 Hi.out.1 Hi.out.2.1 Hi.out.2.2.1 Hi.out.2.2.2 rfl (by omega) (.slice oA k oc) k (recFlat Cs) rfl (O2.out.alloc _) (some ⟨w2.heap.size, 0, none⟩) 1 1 (recL ⟨C.R, A1, c1, B1, d1⟩) rfl (reads_new w2 _ (recL ⟨C.R, A1, c1, B1, d1⟩) _ rfl) (by simp [Value.oneCell']) (by simp only [maxLen]; omega) (by omega) (by simp; omega) ?_; intro A3 c3 w3 hown3 hgr3)
      have REL : Cs.length + 1 = k + 1 ∧ (Cs ++ [C']).map (·.R) = (L.take (k + 1)).map (·.R) ∧ w3.ownsRow w.heap.size 39 15 (.slice A3 (k + 1) c3) (k + 1) (recFlat (Cs ++ [C'])) ∧ (∀ X ∈ Cs ++ [C'], ChOwn w3 X) ∧ Fr none_ w w3 := by
        have ho2 := O2.out.alloc (.cells (recL ⟨C.R, A1, c1, B1, d1⟩).toArray 39)
        refine ⟨by rw [HCL.out], ?_, ?_, fun X hX => ?_, ((F.out.then_none F2.out).alloc _).grown hgr3 (fun b hb => .inr (O2.out.lt b hb).1)⟩
        · rw [List.take_add_one, HC.out, List.map_append, List.map_append, HCM.out, HC'.out]
          rfl
        · rw [recFlat_app, HC'.out]
          have : recFlat [(⟨C.R, A1, c1, B1, d1⟩ : Ch)] = recL ⟨C.R, A1, c1, B1, d1⟩ := by simp [recFlat]
          rw [this]
          exact hown3
        · rcases List.mem_append.1 hX with hX | hX
          · exact (((HCS.out X hX).keep F2.out).keep ((Fr.refl none_ w2).alloc _)).beside ho2 hgr3
          · obtain rfl : X = C' := by simpa using hX
            refine ChOwn.beside (ChOwn.keep ?_ ((Fr.refl none_ w2).alloc _)) ho2 hgr3
            rw [HC'.out]
            exact ⟨RO.out, HO.out.low, HO.out.high, HO.out.key, HO.out.hkey, HO.out.ents⟩
      have HREL := hid_ REL
      clear REL hown3 hgr3
      go_wp2
      go_roundw
      case rel => exact ⟨k + 1, Cs ++ [C'], by omega, by go_num, by rw [List.length_append]; exact HREL.out.1, HREL.out.2.1, HREL.out.2.2.1, HREL.out.2.2.2.1, HREL.out.2.2.2.2⟩
      case measure => simp [intOf]; omega
    · obtain rfl : k = n := by omega
      have hcm := HCM.out
      rw [List.take_of_length_le (by omega)] at hcm
      have HCM' := hid_ hcm
      clear hcm
      go_wp2
      go_ret
      rw [← hln] at O ⊢
      exact ⟨oA, oc, Cs, rfl, HCM'.out, O.out, HCS.out, F.out⟩
end Go.Proofs.Ytphlfocdljihlaa

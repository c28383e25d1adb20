/- Contracts of package epoch's Bin: Ripe. -/
import Derived.Test.YtmindkphdakflaaDoorBin2
namespace Go.Proofs.YtmindkphdakflaaDoor
open Go.RowKit
set_option maxRecDepth 100000
set_option linter.unusedVariables false

def ripeOf (o : Int) (L : List It) : List It := L.filter fun p => decide (p.1 < o)
def stayOf (o : Int) (L : List It) : List It := L.filter fun p => !decide (p.1 < o)
theorem ripe_hit {o : Int} {L : List It} {k : Nat} {p : It} (hp : L[k]? = some p) (h : p.1 < o) : ripeOf o (L.take (k + 1)) = ripeOf o (L.take k) ++ [p] ∧ stayOf o (L.take (k + 1)) = stayOf o (L.take k) := by
  have : L.take (k + 1) = L.take k ++ [p] := by rw [List.take_add_one, hp]; rfl
  rw [this]
  simp [ripeOf, stayOf, List.filter_append, h]
theorem ripe_miss {o : Int} {L : List It} {k : Nat} {p : It} (hp : L[k]? = some p) (h : ¬ p.1 < o) : ripeOf o (L.take (k + 1)) = ripeOf o (L.take k) ∧ stayOf o (L.take (k + 1)) = stayOf o (L.take k) ++ [p] := by
  have : L.take (k + 1) = L.take k ++ [p] := by rw [List.take_add_one, hp]; rfl
  rw [this]
  simp [ripeOf, stayOf, List.filter_append, h]
theorem ripe_le (o : Int) (L : List It) (k : Nat) : (ripeOf o (L.take k)).length ≤ k ∧ (stayOf o (L.take k)).length ≤ k := by
  have h1 := List.length_filter_le (fun p : It => decide (p.1 < o)) (L.take k)
  have h2 := List.length_filter_le (fun p : It => !decide (p.1 < o)) (L.take k)
  have h3 := List.length_take_le k L
  unfold ripeOf stayOf
  omega

structure RipeSt (w wr : World) (B : Nat) (o : Int) (v vo vr : Value) (L Lo Lr : List It) : Prop where
  hB : Blk wr B 42 #[v]
  own : IOwn wr v L
  bO : Blk wr w.heap.size 3 #[.int .i64 o]
  bo : Blk wr (w.heap.size + 1) 40 #[vo]
  br : Blk wr (w.heap.size + 1 + 1) 40 #[vr]
  oo : wr.ownsRow w.heap.size 47 4 vo Lo.length (itFlat Lo)
  or : wr.ownsRow w.heap.size 47 4 vr Lr.length (itFlat Lr)
  ne : ∀ g, vo.ownBlock = some g → ¬ vr.ownBlock = some g
  fr : Fr none_ w wr
  hb : B < w.heap.size
  hv : ∀ g, v.ownBlock = some g → g < w.heap.size
section
variable {w wr w2 : World} {B : Nat} {o : Int} {v vo vr v' : Value} {L Lo Lr : List It} {p : It}
theorem RipeSt.keep (h : RipeSt w wr B o v vo vr L Lo Lr) (hf : Fr none_ wr w2) : RipeSt w w2 B o v vo vr L Lo Lr :=
  ⟨h.hB.fr hf id, own_none h.own hf, h.bO.fr hf id, h.bo.fr hf id, h.br.fr hf id, own_none h.oo hf, own_none h.or hf, h.ne, h.fr.then_none hf, h.hb, h.hv⟩
theorem RipeSt.short (h : RipeSt w wr B o v vo vr L Lo Lr) : ∀ g, (vo.ownBlock = some g ∨ vr.ownBlock = some g) → g ≠ B ∧ ¬ v.ownBlock = some g ∧ g ≠ w.heap.size ∧ g ≠ w.heap.size + 1 ∧ g ≠ w.heap.size + 1 + 1 ∧ w.heap.size ≤ g ∧ g < wr.heap.size := by
  intro g hg
  have hb := h.hb
  have a1 : ∀ t cs b, Blk wr b t cs → 47 ≠ t → g ≠ b := by
    intro t cs b hB hne e
    subst e
    rcases hg with hg | hg
    · exact own_blk_ne h.oo hB hne hg
    · exact own_blk_ne h.or hB hne hg
  have a2 : w.heap.size ≤ g ∧ g < wr.heap.size := by
    rcases hg with hg | hg
    · exact h.oo.lt g hg
    · exact h.or.lt g hg
  exact ⟨a1 _ _ _ h.hB (by decide), fun e => by have := h.hv g e; omega, a1 _ _ _ h.bO (by decide), a1 _ _ _ h.bo (by decide), a1 _ _ _ h.br (by decide), a2⟩
/-- A ripe item was appended and laid into out's cell. -/
theorem RipeSt.putO (h : RipeSt w wr B o v vo vr L Lo Lr) (ho : w2.ownsRow w.heap.size 47 4 v' (Lo.length + 1) (itFlat Lo ++ itCells p)) (hg : wr.grownBy w2 vo.ownBlock) (hat : v'.ownBlock = vo.ownBlock ∨ v'.ownBlock = some wr.heap.size) :
    RipeSt w (w2.setCell ⟨w.heap.size + 1, 0, none⟩ v') B o v v' vr L (Lo ++ [p]) Lr := by
  have F2 : Fr (fun b => vo.ownBlock = some b) wr w2 := (Fr.refl _ wr).grown hg (fun b hb => .inl hb)
  have F3 : Fr (only (w.heap.size + 1)) w2 (w2.setCell ⟨w.heap.size + 1, 0, none⟩ v') := Fr.only1 w2 ⟨w.heap.size + 1, 0, none⟩ v'
  have hb := h.hb
  have s := h.short
  have so : ∀ b, (∀ g, vo.ownBlock = some g → g ≠ b) → ¬ (fun b => vo.ownBlock = some b) b := fun b hb e => hb b e rfl
  have bl := h.br.lt
  have no : ∀ g, v'.ownBlock = some g → g ≠ w.heap.size + 1 ∧ ¬ vr.ownBlock = some g := fun g e => by
    rcases hat with hat | hat
    · rw [hat] at e; exact ⟨(s g (.inl e)).2.2.2.1, h.ne g e⟩
    · rw [hat] at e
      have : wr.heap.size = g := by injection e
      exact ⟨by omega, fun e2 => by have := (h.or.lt g e2).2; omega⟩
  refine ⟨(h.hB.fr F2 (so _ fun g e => (s g (.inl e)).1)).fr F3 (only_ne (by omega)), ?_, (h.bO.fr F2 (so _ fun g e => (s g (.inl e)).2.2.1)).fr F3 (only_ne (by omega)), (h.bo.fr F2 (so _ fun g e => (s g (.inl e)).2.2.2.1)).set_ 0 _, (h.br.fr F2 (so _ fun g e => (s g (.inl e)).2.2.2.2.1)).fr F3 (only_ne (by omega)), ?_, ?_, fun g e => (no g e).2, ?_, hb, h.hv⟩
  · refine own_fr (own_fr h.own F2 (fun k hk e => (s k (.inl e)).2.1 hk)) F3 (fun k hk e => ?_)
    have := h.hv k hk
    have : k = w.heap.size + 1 := e
    omega
  · have e1 : (Lo ++ [p]).length = Lo.length + 1 := by simp
    rw [e1, itFlat_snoc]
    exact own_fr ho F3 (fun k hk e => (no k hk).1 e)
  · exact own_fr (own_fr h.or F2 (fun k hk e => h.ne k e hk)) F3 (fun k hk e => (s k (.inr hk)).2.2.2.1 e)
  · exact (h.fr.trans F2 (fun _ _ e => e) (fun i hi e => by have := (s i (.inl e)).2.2.2.2.2.1; omega)).then_only F3 (.inr (by omega))
theorem RipeSt.putR (h : RipeSt w wr B o v vo vr L Lo Lr) (ho : w2.ownsRow w.heap.size 47 4 v' (Lr.length + 1) (itFlat Lr ++ itCells p)) (hg : wr.grownBy w2 vr.ownBlock) (hat : v'.ownBlock = vr.ownBlock ∨ v'.ownBlock = some wr.heap.size) :
    RipeSt w (w2.setCell ⟨w.heap.size + 1 + 1, 0, none⟩ v') B o v vo v' L Lo (Lr ++ [p]) := by
  have F2 : Fr (fun b => vr.ownBlock = some b) wr w2 := (Fr.refl _ wr).grown hg (fun b hb => .inl hb)
  have F3 : Fr (only (w.heap.size + 1 + 1)) w2 (w2.setCell ⟨w.heap.size + 1 + 1, 0, none⟩ v') := Fr.only1 w2 ⟨w.heap.size + 1 + 1, 0, none⟩ v'
  have hb := h.hb
  have s := h.short
  have so : ∀ b, (∀ g, vr.ownBlock = some g → g ≠ b) → ¬ (fun b => vr.ownBlock = some b) b := fun b hb e => hb b e rfl
  have bl := h.br.lt
  have no : ∀ g, v'.ownBlock = some g → g ≠ w.heap.size + 1 + 1 ∧ ¬ vo.ownBlock = some g := fun g e => by
    rcases hat with hat | hat
    · rw [hat] at e; exact ⟨(s g (.inr e)).2.2.2.2.1, fun e2 => h.ne g e2 e⟩
    · rw [hat] at e
      have : wr.heap.size = g := by injection e
      exact ⟨by omega, fun e2 => by have := (h.oo.lt g e2).2; omega⟩
  refine ⟨(h.hB.fr F2 (so _ fun g e => (s g (.inr e)).1)).fr F3 (only_ne (by omega)), ?_, (h.bO.fr F2 (so _ fun g e => (s g (.inr e)).2.2.1)).fr F3 (only_ne (by omega)), (h.bo.fr F2 (so _ fun g e => (s g (.inr e)).2.2.2.1)).fr F3 (only_ne (by omega)), (h.br.fr F2 (so _ fun g e => (s g (.inr e)).2.2.2.2.1)).set_ 0 _, ?_, ?_, fun g e e2 => (no g e2).2 e, ?_, hb, h.hv⟩
  · refine own_fr (own_fr h.own F2 (fun k hk e => (s k (.inr e)).2.1 hk)) F3 (fun k hk e => ?_)
    have := h.hv k hk
    have : k = w.heap.size + 1 + 1 := e
    omega
  · exact own_fr (own_fr h.oo F2 (fun k hk e => h.ne k hk e)) F3 (fun k hk e => (s k (.inl hk)).2.2.2.2.1 e)
  · have e1 : (Lr ++ [p]).length = Lr.length + 1 := by simp
    rw [e1, itFlat_snoc]
    exact own_fr ho F3 (fun k hk e => (no k hk).1 e)
  · exact (h.fr.trans F2 (fun _ _ e => e) (fun i hi e => by have := (s i (.inr e)).2.2.2.2.2.1; omega)).then_only F3 (.inr (by omega))
end

def RipePost (B : Nat) (o : Int) (L : List It) (w : World) (e : Ending) (w' : World) : Prop :=
  ∃ A c A2 c2, e = .returned (.slice A (ripeOf o L).length c) ∧ w'.ownsRow w.heap.size 47 4 (.slice A (ripeOf o L).length c) (ripeOf o L).length (itFlat (ripeOf o L)) ∧ Bn w' B (.slice A2 (stayOf o L).length c2) (stayOf o L) ∧ Fr (only B) w w'

set_option maxHeartbeats 2000000 in
theorem binRipe_ok (B : Nat) (A : Option Addr) (c : Nat) (L : List It) (o : Int) (w : World) (h : Bn w B (.slice A L.length c) L) (hL : L.length ≤ 1000) :
    Calls Tryd.prog 17 #[.pointer (some ⟨B, 0, none⟩), .int .i64 o] w (RipePost B o L w) := by
  obtain ⟨i0, hi0, hz0, hs0, hb0⟩ := info_parts item_info
  have Hi := hid_ (And.intro hi0 (And.intro hz0 (And.intro hs0 hb0)))
  have H := hid_ h
  have c0 : w.cell? ⟨B, 0, none⟩ = some (.slice A L.length c) := h.hB.cell' rfl
  have lB := h.hB.lt
  have lB1 : B < w.heap.size + 1 := by omega
  have lB2 : B < w.heap.size + 1 + 1 := by omega
  obtain ⟨w0, hw0⟩ : ∃ w0, w0 = ((w.alloc (.cells #[.int .i64 o] 3)).alloc (.cells #[.slice none 0 0] 40)).alloc (.cells #[.slice none 0 0] 40) := ⟨_, rfl⟩
  have S0 : Hid (RipeSt w w0 B o (.slice A L.length c) (.slice none 0 0) (.slice none 0 0) L [] []) := by
    have k1 := Blk.new (w.alloc (.cells #[.int .i64 o] 3)) 40 #[.slice none 0 0]
    have k2 := Blk.new ((w.alloc (.cells #[.int .i64 o] 3)).alloc (.cells #[.slice none 0 0] 40)) 40 #[.slice none 0 0]
    simp only [World.size_alloc] at k1 k2
    have f0 : Fr none_ w w0 := by rw [hw0]; exact (((Fr.refl none_ w).alloc _).alloc _).alloc _
    exact hid_ ⟨h.hB.fr f0 id, own_none h.own f0, by rw [hw0]; exact ((Blk.new w _ _).alloc _).alloc _, by rw [hw0]; exact k1.alloc _, by rw [hw0]; exact k2, World.ownsRow_nil _ _ _ _, World.ownsRow_nil _ _ _ _, fun g e => by simp [Value.ownBlock] at e, f0, lB, fun g e => (h.own.lt g e).2⟩
  clear hi0 hz0 hs0 hb0 h
  go_enter Tryd.func17, Tryd.ntmps17
  go_wp2_with fail
  change Code.wp _ _ _ _ (((w.alloc (.cells #[.int .i64 o] 3)).alloc (.cells #[.slice none 0 0] 40)).alloc (.cells #[.slice none 0 0] 40))
  rw [← hw0]
  clear hw0
  go_loopw [19] (fun i wr => ∃ (k : Nat) (vo vr : Value), k ≤ L.length ∧ i = .int .i64 k ∧ RipeSt w wr B o (.slice A L.length c) vo vr L (ripeOf o (L.take k)) (stayOf o (L.take k))) (fun i _ => L.length - (intOf i).toNat)
  case atStart => exact ⟨0, _, _, Nat.zero_le _, rfl, S0.out⟩
  case round =>
    obtain ⟨k, vo, vr, hk, rfl, hS⟩ := hrel
    obtain ⟨Lo, hLo⟩ : ∃ x, x = ripeOf o (L.take k) := ⟨_, rfl⟩
    obtain ⟨Lr, hLr⟩ : ∃ x, x = stayOf o (L.take k) := ⟨_, rfl⟩
    have hl := ripe_le o L k
    rw [← hLo, ← hLr] at hS hl
    obtain ⟨Ao, co, rfl⟩ := hS.oo.shape
    obtain ⟨Ar, cr, rfl⟩ := hS.or.shape
    have HLo := hid_ hLo
    have HLr := hid_ hLr
    have S := hid_ hS
    clear hS hLo hLr
    by_cases hlt : k < L.length
    · obtain ⟨p, hp⟩ : ∃ p, L[k]? = some p := ⟨_, List.getElem?_eq_getElem hlt⟩
      obtain ⟨g, rfl, hg, e0, e1, e2, e3⟩ := it_cell S.out.own hp
      have Hp := hid_ hp
      clear hp
      go_wp2_with fail
      obtain ⟨w1, hw1⟩ : ∃ w1, w1 = wr.alloc (.cells #[.int .i64 p.1, .int .i64 p.2.1, .int .i64 p.2.2.1, .int .i64 p.2.2.2] 47) := ⟨_, rfl⟩
      have S1 : Hid (RipeSt w w1 B o (.slice (some ⟨g, 0, none⟩) L.length c) (.slice Ao Lo.length co) (.slice Ar Lr.length cr) L Lo Lr) := hid_ (by rw [hw1]; exact S.out.keep ((Fr.refl none_ wr).alloc _))
      rw [← hw1]
      refine (sort_ok p o w.heap.size (w.heap.size + 1) (w.heap.size + 1 + 1) _ (S1.out.bO)).mono ?_
      rintro e w2 ⟨rfl, hf2⟩
      have X1 : Hid (Blk w1 wr.heap.size 47 #[.int .i64 p.1, .int .i64 p.2.1, .int .i64 p.2.2.1, .int .i64 p.2.2.2]) := hid_ (by rw [hw1]; exact Blk.new wr _ _)
      have X2 := hid_ (X1.out.fr hf2 id)
      have S2 := hid_ (S1.out.keep hf2)
      clear hf2 e0 e1 e2 e3
      by_cases hr : p.1 < o
      · simp only [if_pos hr]
        go_wp2_with fail
        have O1 := hid_ (S2.out.keep (((Fr.refl none_ w2).alloc (.cells #[.int .i64 p.1, .int .i64 p.2.1, .int .i64 p.2.2.1, .int .i64 p.2.2.2] 47)).drew))
        have hS0 : (fun w' : World => w'.cell? ⟨w.heap.size + 1, 0, none⟩ = some (.slice Ao Lo.length co) ∧ w'.cell? ⟨wr.heap.size, 0, none⟩ = some (.int .i64 p.1) ∧ w'.cell? ⟨wr.heap.size, 1, none⟩ = some (.int .i64 p.2.1) ∧ w'.cell? ⟨wr.heap.size, 2, none⟩ = some (.int .i64 p.2.2.1) ∧ w'.cell? ⟨wr.heap.size, 3, none⟩ = some (.int .i64 p.2.2.2)) w2.drew :=
          ⟨S2.out.bo.cell' rfl, X2.out.cell' rfl, X2.out.cell' rfl, X2.out.cell' rfl, X2.out.cell' rfl⟩
        refine wp_region_T (m := 8) (S := fun w' : World => w'.cell? ⟨w.heap.size + 1, 0, none⟩ = some (.slice Ao Lo.length co) ∧ w'.cell? ⟨wr.heap.size, 0, none⟩ = some (.int .i64 p.1) ∧ w'.cell? ⟨wr.heap.size, 1, none⟩ = some (.int .i64 p.2.1) ∧ w'.cell? ⟨wr.heap.size, 2, none⟩ = some (.int .i64 p.2.2.1) ∧ w'.cell? ⟨wr.heap.size, 3, none⟩ = some (.int .i64 p.2.2.2)) (by kernel_rfl) ?_
        refine wpAnyT_take (i := 0) (v := _) rfl (by kernel_rfl) (by kernel_rfl) (by kernel_rfl) (by kernel_rfl) (fun _ _ _ h => h) (.inl ⟨by simp [Region.wanted], fun w' hS => by obtain ⟨s0, s1, s2, s3, s4⟩ := hS; go_simp; rfl⟩) hS0 ?_
        refine wpAnyT_take (i := 1) (v := _) rfl (by kernel_rfl) (by kernel_rfl) (by kernel_rfl) (by kernel_rfl) (fun _ _ _ h => h) (.inl ⟨by simp [Region.wanted], fun w' hS => by obtain ⟨s0, s1, s2, s3, s4⟩ := hS; go_simp; rfl⟩) hS0 ?_
        refine wpAnyT_take (i := 2) (v := _) rfl (by kernel_rfl) (by kernel_rfl) (by kernel_rfl) (by kernel_rfl) (fun _ _ _ h => h) (.inl ⟨by simp [Region.wanted], fun w' hS => by obtain ⟨s0, s1, s2, s3, s4⟩ := hS; go_simp; rfl⟩) hS0 ?_
        refine wpAnyT_take (i := 3) (v := _) rfl (by kernel_rfl) (by kernel_rfl) (by kernel_rfl) (by kernel_rfl) (fun _ _ _ h => h) (.inl ⟨by simp [Region.wanted], fun w' hS => by obtain ⟨s0, s1, s2, s3, s4⟩ := hS; go_simp; rfl⟩) hS0 ?_
        refine wpAnyT_take (i := 4) (v := _) rfl (by kernel_rfl) (by kernel_rfl) (by kernel_rfl) (by kernel_rfl) (fun _ _ _ h => h) (.inl ⟨by simp [Region.wanted], fun w' hS => by obtain ⟨s0, s1, s2, s3, s4⟩ := hS; go_simp; rfl⟩) hS0 ?_
        have q0 := X2.out.lt
        have q1 := S2.out.bo.lt
        have q2 := S2.out.br.lt
        have s0 : w2.cell? ⟨w.heap.size + 1, 0, none⟩ = some (.slice Ao Lo.length co) := S2.out.bo.cell' rfl
        have s1 : w2.cell? ⟨wr.heap.size, 0, none⟩ = some (.int .i64 p.1) := X2.out.cell' rfl
        have s2 : w2.cell? ⟨wr.heap.size, 1, none⟩ = some (.int .i64 p.2.1) := X2.out.cell' rfl
        have s3 : w2.cell? ⟨wr.heap.size, 2, none⟩ = some (.int .i64 p.2.2.1) := X2.out.cell' rfl
        have s4 : w2.cell? ⟨wr.heap.size, 3, none⟩ = some (.int .i64 p.2.2.2) := X2.out.cell' rfl
        clear hS0
        refine wpAnyT_one (i := 5) rfl rfl (by kernel_rfl) ?_
        go_simp
        refine wpAnyT_one (i := 6) rfl rfl (by kernel_rfl) ?_
        refine wp_append_at _ (.tmp 29) (.tmp 31) 40 rfl w.heap.size 47 i0 _ 4 32 Tryd.underlying40 Hi.out.1 Hi.out.2.1 Hi.out.2.2.1 Hi.out.2.2.2 rfl (by omega) (.slice Ao Lo.length co) Lo.length (itFlat Lo) rfl O1.out.oo (some ⟨w2.heap.size, 0, none⟩) 1 1 (itCells p) rfl (reads_new w2 _ (itCells p) _ rfl).drew (by simp [itCells, Value.oneCell']) (by simp only [maxLen]; omega) (by omega) (by have := S2.out.fr.size; simp; omega) ?_
        intro v' w4 hown4 hgr4 hat4
        have kb := S2.out.bo
        have k1 := (O1.out.bo.grown hgr4 (Ne.symm (own_blk_ne O1.out.oo O1.out.bo (by decide))))
        have k2 := ((X2.out.alloc (.cells #[.int .i64 p.1, .int .i64 p.2.1, .int .i64 p.2.2.1, .int .i64 p.2.2.2] 47)).drew.grown hgr4 (fun e => by have := (S.out.oo.lt _ e.symm).2; omega))
        have S5 := hid_ (O1.out.putO hown4 hgr4 hat4)
        have K1 := hid_ k1
        clear s0 s1 s2 s3 s4 hown4 hgr4 hat4 kb
        have s0 : w4.cell? ⟨w.heap.size + 1, 0, none⟩ = some (.slice Ao Lo.length co) := k1.cell' rfl
        have s1 : w4.cell? ⟨wr.heap.size, 0, none⟩ = some (.int .i64 p.1) := k2.cell' rfl
        have s2 : w4.cell? ⟨wr.heap.size, 1, none⟩ = some (.int .i64 p.2.1) := k2.cell' rfl
        have s3 : w4.cell? ⟨wr.heap.size, 2, none⟩ = some (.int .i64 p.2.2.1) := k2.cell' rfl
        have s4 : w4.cell? ⟨wr.heap.size, 3, none⟩ = some (.int .i64 p.2.2.2) := k2.cell' rfl
        have f0 : w4.frozen? ⟨w.heap.size + 1, 0, none⟩ = false := k1.frozen 0
        clear k1 k2
        refine ⟨.inr ⟨s0, s1, s2, s3, s4⟩, ?_⟩
        refine wpAnyT_one (i := 7) rfl rfl (by kernel_rfl) ?_
        go_simp
        refine wpAnyT_one (i := 8) rfl rfl (by kernel_rfl) ?_
        obtain ⟨Av, cv, rfl⟩ := S5.out.oo.shape
        go_simp
        refine wpAnyT_done (by kernel_rfl) ?_ _
        clear s0 s1 s2 s3 s4 f0
        go_wp2
        go_roundw
        case rel => exact ⟨k + 1, _, _, by omega, by go_num, by rw [(ripe_hit Hp.out hr).1, (ripe_hit Hp.out hr).2, ← HLo.out, ← HLr.out]; have q := S5.out; simp only [List.length_append, List.length_cons, List.length_nil, Nat.zero_add] at q; exact q⟩
        case measure => simp [intOf]; omega
      · simp only [if_neg hr]
        go_wp2_with fail
        have O1 := hid_ (S2.out.keep (((Fr.refl none_ w2).alloc (.cells #[.int .i64 p.1, .int .i64 p.2.1, .int .i64 p.2.2.1, .int .i64 p.2.2.2] 47)).drew))
        have hS0 : (fun w' : World => w'.cell? ⟨w.heap.size + 1 + 1, 0, none⟩ = some (.slice Ar Lr.length cr) ∧ w'.cell? ⟨wr.heap.size, 0, none⟩ = some (.int .i64 p.1) ∧ w'.cell? ⟨wr.heap.size, 1, none⟩ = some (.int .i64 p.2.1) ∧ w'.cell? ⟨wr.heap.size, 2, none⟩ = some (.int .i64 p.2.2.1) ∧ w'.cell? ⟨wr.heap.size, 3, none⟩ = some (.int .i64 p.2.2.2)) w2.drew :=
          ⟨S2.out.br.cell' rfl, X2.out.cell' rfl, X2.out.cell' rfl, X2.out.cell' rfl, X2.out.cell' rfl⟩
        refine wp_region_T (m := 8) (S := fun w' : World => w'.cell? ⟨w.heap.size + 1 + 1, 0, none⟩ = some (.slice Ar Lr.length cr) ∧ w'.cell? ⟨wr.heap.size, 0, none⟩ = some (.int .i64 p.1) ∧ w'.cell? ⟨wr.heap.size, 1, none⟩ = some (.int .i64 p.2.1) ∧ w'.cell? ⟨wr.heap.size, 2, none⟩ = some (.int .i64 p.2.2.1) ∧ w'.cell? ⟨wr.heap.size, 3, none⟩ = some (.int .i64 p.2.2.2)) (by kernel_rfl) ?_
        refine wpAnyT_take (i := 0) (v := _) rfl (by kernel_rfl) (by kernel_rfl) (by kernel_rfl) (by kernel_rfl) (fun _ _ _ h => h) (.inl ⟨by simp [Region.wanted], fun w' hS => by obtain ⟨s0, s1, s2, s3, s4⟩ := hS; go_simp; rfl⟩) hS0 ?_
        refine wpAnyT_take (i := 1) (v := _) rfl (by kernel_rfl) (by kernel_rfl) (by kernel_rfl) (by kernel_rfl) (fun _ _ _ h => h) (.inl ⟨by simp [Region.wanted], fun w' hS => by obtain ⟨s0, s1, s2, s3, s4⟩ := hS; go_simp; rfl⟩) hS0 ?_
        refine wpAnyT_take (i := 2) (v := _) rfl (by kernel_rfl) (by kernel_rfl) (by kernel_rfl) (by kernel_rfl) (fun _ _ _ h => h) (.inl ⟨by simp [Region.wanted], fun w' hS => by obtain ⟨s0, s1, s2, s3, s4⟩ := hS; go_simp; rfl⟩) hS0 ?_
        refine wpAnyT_take (i := 3) (v := _) rfl (by kernel_rfl) (by kernel_rfl) (by kernel_rfl) (by kernel_rfl) (fun _ _ _ h => h) (.inl ⟨by simp [Region.wanted], fun w' hS => by obtain ⟨s0, s1, s2, s3, s4⟩ := hS; go_simp; rfl⟩) hS0 ?_
        refine wpAnyT_take (i := 4) (v := _) rfl (by kernel_rfl) (by kernel_rfl) (by kernel_rfl) (by kernel_rfl) (fun _ _ _ h => h) (.inl ⟨by simp [Region.wanted], fun w' hS => by obtain ⟨s0, s1, s2, s3, s4⟩ := hS; go_simp; rfl⟩) hS0 ?_
        have q0 := X2.out.lt
        have q1 := S2.out.bo.lt
        have q2 := S2.out.br.lt
        have s0 : w2.cell? ⟨w.heap.size + 1 + 1, 0, none⟩ = some (.slice Ar Lr.length cr) := S2.out.br.cell' rfl
        have s1 : w2.cell? ⟨wr.heap.size, 0, none⟩ = some (.int .i64 p.1) := X2.out.cell' rfl
        have s2 : w2.cell? ⟨wr.heap.size, 1, none⟩ = some (.int .i64 p.2.1) := X2.out.cell' rfl
        have s3 : w2.cell? ⟨wr.heap.size, 2, none⟩ = some (.int .i64 p.2.2.1) := X2.out.cell' rfl
        have s4 : w2.cell? ⟨wr.heap.size, 3, none⟩ = some (.int .i64 p.2.2.2) := X2.out.cell' rfl
        clear hS0
        refine wpAnyT_one (i := 5) rfl rfl (by kernel_rfl) ?_
        go_simp
        refine wpAnyT_one (i := 6) rfl rfl (by kernel_rfl) ?_
        refine wp_append_at _ (.tmp 29) (.tmp 31) 40 rfl w.heap.size 47 i0 _ 4 32 Tryd.underlying40 Hi.out.1 Hi.out.2.1 Hi.out.2.2.1 Hi.out.2.2.2 rfl (by omega) (.slice Ar Lr.length cr) Lr.length (itFlat Lr) rfl O1.out.or (some ⟨w2.heap.size, 0, none⟩) 1 1 (itCells p) rfl (reads_new w2 _ (itCells p) _ rfl).drew (by simp [itCells, Value.oneCell']) (by simp only [maxLen]; omega) (by omega) (by have := S2.out.fr.size; simp; omega) ?_
        intro v' w4 hown4 hgr4 hat4
        have kb := S2.out.br
        have k1 := (O1.out.br.grown hgr4 (Ne.symm (own_blk_ne O1.out.or O1.out.br (by decide))))
        have k2 := ((X2.out.alloc (.cells #[.int .i64 p.1, .int .i64 p.2.1, .int .i64 p.2.2.1, .int .i64 p.2.2.2] 47)).drew.grown hgr4 (fun e => by have := (S.out.or.lt _ e.symm).2; omega))
        have S5 := hid_ (O1.out.putR hown4 hgr4 hat4)
        have K1 := hid_ k1
        clear s0 s1 s2 s3 s4 hown4 hgr4 hat4 kb
        have s0 : w4.cell? ⟨w.heap.size + 1 + 1, 0, none⟩ = some (.slice Ar Lr.length cr) := k1.cell' rfl
        have s1 : w4.cell? ⟨wr.heap.size, 0, none⟩ = some (.int .i64 p.1) := k2.cell' rfl
        have s2 : w4.cell? ⟨wr.heap.size, 1, none⟩ = some (.int .i64 p.2.1) := k2.cell' rfl
        have s3 : w4.cell? ⟨wr.heap.size, 2, none⟩ = some (.int .i64 p.2.2.1) := k2.cell' rfl
        have s4 : w4.cell? ⟨wr.heap.size, 3, none⟩ = some (.int .i64 p.2.2.2) := k2.cell' rfl
        have f0 : w4.frozen? ⟨w.heap.size + 1 + 1, 0, none⟩ = false := k1.frozen 0
        clear k1 k2
        refine ⟨.inr ⟨s0, s1, s2, s3, s4⟩, ?_⟩
        refine wpAnyT_one (i := 7) rfl rfl (by kernel_rfl) ?_
        go_simp
        refine wpAnyT_one (i := 8) rfl rfl (by kernel_rfl) ?_
        obtain ⟨Av, cv, rfl⟩ := S5.out.or.shape
        go_simp
        refine wpAnyT_done (by kernel_rfl) ?_ _
        clear s0 s1 s2 s3 s4 f0
        go_wp2
        go_roundw
        case rel => exact ⟨k + 1, _, _, by omega, by go_num, by rw [(ripe_miss Hp.out (by omega : ¬ p.1 < o)).1, (ripe_miss Hp.out (by omega : ¬ p.1 < o)).2, ← HLo.out, ← HLr.out]; have q := S5.out; simp only [List.length_append, List.length_cons, List.length_nil, Nat.zero_add] at q; exact q⟩
        case measure => simp [intOf]; omega
    · obtain rfl : k = L.length := by omega
      have f0 := S.out.hB.frozen 0
      have r0 : wr.cell? ⟨B, 0, none⟩ = some (.slice A L.length c) := S.out.hB.cell' rfl
      have r1 : wr.cell? ⟨w.heap.size + 1, 0, none⟩ = some (.slice Ao Lo.length co) := S.out.bo.cell' rfl
      have r2 : wr.cell? ⟨w.heap.size + 1 + 1, 0, none⟩ = some (.slice Ar Lr.length cr) := S.out.br.cell' rfl
      go_wp2_with fail
      have F9 := Fr.only1 wr ⟨B, 0, none⟩ (.slice Ar Lr.length cr)
      have hne : ∀ g, (Value.slice Ar Lr.length cr).ownBlock = some g → g ≠ B := fun g e => (S.out.short g (.inr e)).1
      have hne2 : ∀ g, (Value.slice Ao Lo.length co).ownBlock = some g → g ≠ B := fun g e => (S.out.short g (.inl e)).1
      have eo : Lo = ripeOf o L := by rw [HLo.out, List.take_length]
      have er : Lr = stayOf o L := by rw [HLr.out, List.take_length]
      subst eo
      subst er
      have O9 := own_fr S.out.oo F9 (fun k hk e => hne2 k hk e)
      have R9 := own_base (own_fr S.out.or F9 (fun k hk e => hne k hk e)) (Nat.zero_le _)
      have B9 := S.out.hB.set_ 0 (.slice Ar (stayOf o L).length cr)
      have G9 : Fr (only B) w (wr.setCell ⟨B, 0, none⟩ (.slice Ar (stayOf o L).length cr)) := S.out.fr.toOnly (p := ⟨B, 0, none⟩) _
      go_ret
      exact ⟨Ao, co, Ar, cr, rfl, O9, ⟨B9, R9⟩, G9⟩
end Go.Proofs.YtmindkphdakflaaDoor

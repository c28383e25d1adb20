/- Texts of one proof, merged: Lw7. -/
import Derived.Test.YtfihfjbakfadkaaDoorMcA
import Derived.Test.YtfihfjbakfadkaaDoorMcG
namespace Go.Proofs.YtfihfjbakfadkaaDoor
open Go.RowKit Go.BigFrame
set_option maxRecDepth 100000
set_option linter.unusedVariables false

structure Lw where
  low : ByteArray
  high : ByteArray
  unb : Bool
  right : Int
  rows : List Rw
  gone : Bool
def Lw.zero : Lw := ⟨nilS, nilS, false, 0, [], false⟩
abbrev lwA (V : Lw) (vr : Value) : Array Value := #[.string V.low, .string V.high, .bool V.unb, .int .i64 V.right, vr, .bool V.gone]
structure Lw.Ok (V : Lw) : Prop where
  low : SzOk V.low
  high : SzOk V.high
  rows : RwsOk V.rows
/-- A view's rows are a row of the call's own. -/
structure LwIn (b0 : Nat) (w : World) (V : Lw) (A : Option Addr) (c : Nat) : Prop where
  own : w.ownsRow b0 137 2 (.slice A V.rows.length c) V.rows.length (rwFlat V.rows)
  ok : V.Ok
theorem LwIn.keep {b0 : Nat} {w w' : World} {V : Lw} {A : Option Addr} {c : Nat} (h : LwIn b0 w V A c) (hf : Fr none_ w w') : LwIn b0 w' V A c := ⟨own_none h.own hf, h.ok⟩
theorem LwIn.rd {b0 : Nat} {w : World} {V : Lw} {A : Option Addr} {c : Nat} (h : LwIn b0 w V A c) : Reads w 2 A V.rows.length (rwFlat V.rows) := Reads.of_own h.own
theorem RwsOk.take {L : List Rw} (h : RwsOk L) (n : Nat) : RwsOk (L.take n) := ⟨by have := h.1; simp; omega, fun p hp => h.2 p (List.mem_of_mem_take hp)⟩
theorem RwsOk.put {L : List Rw} {r : Rw} (h : RwsOk L) (hl : L.length < 300000) (hr : SzOk r.1 ∧ SzOk r.2) : RwsOk (putR L r) := by
  refine ⟨by have := putR_len L r; omega, fun p hp => ?_⟩
  simp only [putR, List.mem_append, List.mem_cons, List.not_mem_nil, or_false] at hp
  rcases hp with (hp | rfl) | hp
  · exact h.2 p (List.mem_of_mem_take hp)
  · exact hr
  · exact h.2 p (List.mem_of_mem_drop hp)
abbrev lwZ : Array Value := #[.string ⟨#[]⟩, .string ⟨#[]⟩, .bool false, .int .i64 0, .slice none 0 0, .bool false]
/-- The boxes of up: the view, the record, what is told. -/
structure UlSt (w w' : World) (V : Lw) (R : Rc) (sl vr ve : Value) : Prop where
  bv : Blk w' w.heap.size 79 (lwA V sl)
  br : Blk w' (w.heap.size + 1) 41 (recA R vr ve)
  bo : Blk w' (w.heap.size + 1 + 1) 79 lwZ
  fr : Fr none_ w w'
theorem UlSt.keep {w w1 w2 : World} {V : Lw} {R : Rc} {sl vr ve : Value} (h : UlSt w w1 V R sl vr ve) (hf : Fr none_ w1 w2) : UlSt w w2 V R sl vr ve :=
  ⟨h.bv.fr hf id, h.br.fr hf id, h.bo.fr hf id, h.fr.then_none hf⟩
/-- The view's rows are none of a box of another type. -/
theorem LwIn.far {b0 : Nat} {w w' : World} {V : Lw} {A : Option Addr} {c X : Nat} {t : TypeId} {cs : Array Value} (h : LwIn b0 w V A c) (hX : Blk w X t cs) (hne : 137 ≠ t) (hf : Fr (only X) w w') : LwIn b0 w' V A c :=
  ⟨own_fr h.own hf (fun k hk e => own_blk_ne h.own hX hne (by rw [hk, show k = X from e])), h.ok⟩
end Go.Proofs.YtfihfjbakfadkaaDoor

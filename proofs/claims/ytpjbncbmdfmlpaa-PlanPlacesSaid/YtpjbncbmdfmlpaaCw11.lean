/- A case of layer 11's statements, from what its argument's type tells. -/
import Derived.Test.YtpjbncbmdfmlpaaMd11
import Derived.Test.YtpjbncbmdfmlpaaTypes11
namespace Go.Proofs.Ytpjbncbmdfmlpaa
open Go.RowKit Go.BigFrame Go.ChangeShapes Go.WideShapes
set_option maxRecDepth 100000
set_option linter.unusedVariables false

theorem case11_i {H : Type} {enc : TypeId × Value → H} {f : FuncId} (law : ∀ (c : Cz) (L1 L2 : List Ch) (w : World), CzIn w c L1 L2 → Calls Try.prog f #[.agg (czA c)] w (RetQ (.bool true) w))
    (x0 : Int) (x1 x2 : Value) (x3 : Bool) (x4 : ByteArray) (x5 x6 x7 x8 x9 x10 : Int) (x11 : Bool) (w : World) (h1 : Conf enc Try.prog w (.slice 34) x1) (h2 : Conf enc Try.prog w (.slice 34) x2) (h4 : x4.size ≤ reachBytes) :
    Calls Try.prog f #[.agg #[.int .i64 x0, x1, x2, .bool x3, .string x4, .int .i64 x5, .int .i64 x6, .int .i64 x7, .int .i64 x8, .int .i64 x9, .int .i64 x10, .bool x11]] w fun e w' => e = .returned (.bool true) ∧ Fr none_ w w' := by
  obtain ⟨A1, n1, c1, L1, rfl, a1, b1, i1, r1⟩ := recs_conf h1
  obtain ⟨A2, n2, c2, L2, rfl, a2, b2, i2, r2⟩ := recs_conf h2
  exact law ⟨x0, A1, n1, c1, A2, n2, c2, x3, x4, ⟨x5, x6, x7, x8, x9, x10⟩, x11⟩ L1 L2 w ⟨i1, r1, Nat.le_trans a1 b1, i2, r2, Nat.le_trans a2 b2, szOk_of h4⟩
end Go.Proofs.Ytpjbncbmdfmlpaa

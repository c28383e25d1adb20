/- Plans that are the same are equal. -/
import Derived.Test.YtpjbncbmdfmlpaaQs7
import Derived.Test.YtpjbncbmdfmlpaaBack11
namespace Go.Proofs.Ytpjbncbmdfmlpaa
open Go.RowKit Go.BigFrame
set_option maxRecDepth 100000
set_option linter.unusedVariables false
theorem eql_pn (p : Pn) (w : World) : (binOp .eql 81 (.agg (pnA p)) (.agg (pnA p))).run Try.prog w = .ok (.bool true) w := by
  have h : (Op.equal 81 (.agg (pnA p)) (.agg (pnA p))).run Try.prog w = .ok true w := by
    simp only [Op.equal, Op.maxDepth]
    go_simp
  simp [binOp, h]
theorem eql_pg (x y : Operand) (p : Pn) (w : World) (h : (eqGuard .eql 81 x y (.agg (pnA p)) (.agg (pnA p))).run Try.prog w = .ok () w) : (do eqGuard .eql 81 x y (.agg (pnA p)) (.agg (pnA p)); binOp .eql 81 (.agg (pnA p)) (.agg (pnA p))).run Try.prog w = .ok (.bool true) w := by
  simp only [Sem.run_bind, Result.andThen_ok, h, eql_pn]
end Go.Proofs.Ytpjbncbmdfmlpaa

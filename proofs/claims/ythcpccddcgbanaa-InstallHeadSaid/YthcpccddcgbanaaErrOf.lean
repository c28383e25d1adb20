/- A code's error, or none. -/
import Derived.Test.YthcpccddcgbanaaErr
namespace Go.Proofs.Ythcpccddcgbanaa
open Go.RowKit
set_option linter.unusedVariables false

def errOf (k : Int) : Value := if k = 0 then .nilIface else errV k
theorem errOf_zero : errOf 0 = .nilIface := rfl
theorem errOf_pos {k : Int} (h : k ≠ 0) : errOf k = errV k := if_neg h
end Go.Proofs.Ythcpccddcgbanaa

/- api's codes as errors. -/
import Derived.Test.YtcfddlfeldidjaaDoorProg
import Derived.Test.YtcfddlfeldidjaaDoorBase
import Derived.WalkLawsBesides
import Derived.WalkSpells
import Derived.BigQuiet
namespace Go.Proofs.YtcfddlfeldidjaaDoor
open Go.RowKit

abbrev errV (k : Int) : Value := .iface 22 (.int .i64 k)
end Go.Proofs.YtcfddlfeldidjaaDoor

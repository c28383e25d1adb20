/- api's codes as errors. -/
import Derived.Test.YtmindkphdakflaaDoorProg
import Derived.Test.YtmindkphdakflaaDoorBase
import Derived.WalkLawsBesides
import Derived.WalkSpells
import Derived.BigQuiet
namespace Go.Proofs.YtmindkphdakflaaDoor
open Go.RowKit

abbrev errV (k : Int) : Value := .iface 61 (.int .i64 k)
end Go.Proofs.YtmindkphdakflaaDoor

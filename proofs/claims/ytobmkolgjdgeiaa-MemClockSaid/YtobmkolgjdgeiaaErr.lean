/- api's codes as errors. -/
import Derived.Test.YtobmkolgjdgeiaaProg
import Derived.Test.YtobmkolgjdgeiaaBase
import Derived.WalkLawsBesides
import Derived.WalkSpells
import Derived.BigQuiet
namespace Go.Proofs.Ytobmkolgjdgeiaa
open Go.RowKit

abbrev errV (k : Int) : Value := .iface 50 (.int .i64 k)
end Go.Proofs.Ytobmkolgjdgeiaa

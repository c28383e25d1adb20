/- api's codes as errors. -/
import Derived.Test.YtfoljojacakkeaaDoorProg
import Derived.Test.YtfoljojacakkeaaDoorBase
import Derived.WalkLawsBesides
import Derived.WalkSpells
import Derived.BigQuiet
namespace Go.Proofs.YtfoljojacakkeaaDoor
open Go.RowKit

abbrev errV (k : Int) : Value := .iface 65 (.int .i64 k)
end Go.Proofs.YtfoljojacakkeaaDoor

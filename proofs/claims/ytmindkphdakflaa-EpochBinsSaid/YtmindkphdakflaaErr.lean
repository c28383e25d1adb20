/- api's codes as errors. -/
import Derived.Test.YtmindkphdakflaaProg
import Derived.Test.YtmindkphdakflaaBase
import Derived.WalkLawsBesides
import Derived.WalkSpells
import Derived.BigQuiet
namespace Go.Proofs.Ytmindkphdakflaa
open Go.RowKit

abbrev errV (k : Int) : Value := .iface 47 (.int .i64 k)
end Go.Proofs.Ytmindkphdakflaa

/- api's codes as errors. -/
import Derived.Test.YtbmnphigfkiaeaaProg
import Derived.Test.YtbmnphigfkiaeaaBase
import Derived.WalkLawsBesides
import Derived.WalkSpells
import Derived.BigQuiet
namespace Go.Proofs.Ytbmnphigfkiaeaa
open Go.RowKit

abbrev errV (k : Int) : Value := .iface 55 (.int .i64 k)
end Go.Proofs.Ytbmnphigfkiaeaa

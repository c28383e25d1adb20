/- api's codes as errors. -/
import Derived.Test.YtpjbncbmdfmlpaaProg
import Derived.Test.YtpjbncbmdfmlpaaBase
import Derived.WalkLawsBesides
import Derived.WalkSpells
import Derived.BigQuiet
namespace Go.Proofs.Ytpjbncbmdfmlpaa
open Go.RowKit

abbrev errV (k : Int) : Value := .iface 51 (.int .i64 k)
end Go.Proofs.Ytpjbncbmdfmlpaa

/- api's codes as errors. -/
import Derived.Test.YtphlfocdljihlaaProg
import Derived.Test.YtphlfocdljihlaaBase
import Derived.WalkLawsBesides
import Derived.WalkSpells
import Derived.BigQuiet
namespace Go.Proofs.Ytphlfocdljihlaa
open Go.RowKit

abbrev errV (k : Int) : Value := .iface 58 (.int .i64 k)
end Go.Proofs.Ytphlfocdljihlaa

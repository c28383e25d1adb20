/- api's codes as errors. -/
import Derived.Test.YthcpccddcgbanaaProg
import Derived.Test.YthcpccddcgbanaaBase
import Derived.WalkLawsBesides
import Derived.WalkSpells
import Derived.BigQuiet
namespace Go.Proofs.Ythcpccddcgbanaa
open Go.RowKit

abbrev errV (k : Int) : Value := .iface 70 (.int .i64 k)
end Go.Proofs.Ythcpccddcgbanaa

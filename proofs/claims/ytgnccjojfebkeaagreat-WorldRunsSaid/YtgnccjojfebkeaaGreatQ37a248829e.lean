/- How many notes of a site, what is wrong with a relay: by the document. -/
import Derived.Test.YtgnccjojfebkeaaGreatQ8c79696ad7
import Derived.Test.YtgnccjojfebkeaaGreatQa70fadfe36
import Derived.Test.YtgnccjojfebkeaaGreatQfc0f38224b
import Derived.Test.YtgnccjojfebkeaaGreatQ453a98ae2d
import Derived.Deep.RegionHeld3
import Derived.Deep.RegionLaw
import Derived.Deep.Cut
set_option linter.unusedVariables false
set_option linter.unusedSimpArgs false
set_option maxRecDepth 100000
namespace Go.Proofs.YtgnccjojfebkeaaGreat
open Go Go.RowKit Go.BigFrame Cp
end Go.Proofs.YtgnccjojfebkeaaGreat

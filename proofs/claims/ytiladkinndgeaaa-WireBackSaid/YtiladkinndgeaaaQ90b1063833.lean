/- How many notes of each site: a map. What is wrong with a relay, by the program. -/
import Derived.Test.YtiladkinndgeaaaQ88da264e40
import Derived.Test.YtiladkinndgeaaaQa28958c9c8
import Derived.Maps.OwnOps
import Derived.Maps.Views
import Derived.Deep.RegionLaw
import Derived.Deep.Cut
set_option linter.unusedVariables false
set_option linter.unusedSimpArgs false
namespace Go.Proofs.Ytiladkinndgeaaa
open Go Go.RowKit Go.BigFrame Cp

end Go.Proofs.Ytiladkinndgeaaa
/- What is wrong with a relay, by the program. -/
namespace Go.Proofs.Ytiladkinndgeaaa
open Go Go.RowKit Go.BigFrame Cp

end Go.Proofs.Ytiladkinndgeaaa
/- A relay of one's own; a note more. -/
namespace Go.Proofs.Ytiladkinndgeaaa
open Go Go.RowKit Go.BigFrame Cp

end Go.Proofs.Ytiladkinndgeaaa

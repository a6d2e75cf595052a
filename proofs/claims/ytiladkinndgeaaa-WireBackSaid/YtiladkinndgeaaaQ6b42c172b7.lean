/- How many notes of a site, what is wrong with a relay: by the document. -/
import Derived.Test.YtiladkinndgeaaaQ90b1063833
import Derived.Test.YtiladkinndgeaaaQ0fa89b068c
import Derived.Test.YtiladkinndgeaaaQ446ddad3ff
import Derived.Test.YtiladkinndgeaaaQ9649f021f5
import Derived.Deep.RegionHeld3
import Derived.Deep.RegionLaw
import Derived.Deep.Cut
set_option linter.unusedVariables false
set_option linter.unusedSimpArgs false
namespace Go.Proofs.Ytiladkinndgeaaa
open Go Go.RowKit Go.BigFrame Cp

end Go.Proofs.Ytiladkinndgeaaa
/- A note more, to a relay of one's own. -/
namespace Go.Proofs.Ytiladkinndgeaaa
open Go Go.RowKit Go.BigFrame Cp

end Go.Proofs.Ytiladkinndgeaaa
/- A note posted. -/
namespace Go.Proofs.Ytiladkinndgeaaa
open Go Go.RowKit Go.BigFrame Cp

end Go.Proofs.Ytiladkinndgeaaa

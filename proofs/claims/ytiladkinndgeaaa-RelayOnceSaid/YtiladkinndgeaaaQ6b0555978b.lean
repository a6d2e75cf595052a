/- The atoms of a run, one by one: the iterator. -/
import Derived.RangeFuncNested
import Derived.RangeFuncBound
import Derived.RangeFuncCalls
import Derived.RangeFuncLeaves
import Derived.Shelf.Abstract
import Derived.Shelf.RegionOpen
import Derived.WalkKit
import Derived.OwnWalkIn
import Derived.TacticsInMore
import Derived.LoopNIn
import Derived.LoopIn
import Derived.Test.YtiladkinndgeaaaQ07c7715eed
import Derived.Test.YtiladkinndgeaaaQ7a04ac2d17
set_option linter.unusedVariables false
set_option linter.unusedSimpArgs false
namespace Go.Proofs.Ytiladkinndgeaaa
open Go Go.RowKit Go.BigFrame Cp

attribute [local go_sem] Oper.semAt_some
end Go.Proofs.Ytiladkinndgeaaa

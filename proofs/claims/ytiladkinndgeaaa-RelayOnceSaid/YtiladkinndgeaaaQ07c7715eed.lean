/- A range over a function whose elements hold memory of their own: what is yielded is told of in the world in which it is yielded. -/
import Derived.RangeFuncNested
import Derived.OwnWalkIn
import Derived.Test.YtiladkinndgeaaaQ65e273ef9d
set_option linter.unusedVariables false
set_option linter.unusedSimpArgs false
namespace Cp
open Go Go.RowKit

variable {F : Fence} {n : Nat} {P : Program}

end Cp

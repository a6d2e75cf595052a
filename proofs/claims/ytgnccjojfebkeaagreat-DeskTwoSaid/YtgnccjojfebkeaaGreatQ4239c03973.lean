/- A note; what must be in any case of what was seen. -/
import Derived.Test.YtgnccjojfebkeaaGreatQ24d212c46b
import Derived.Test.YtgnccjojfebkeaaGreatQa70fadfe36
import Derived.Deep.OwnRows
import Derived.Test.YtgnccjojfebkeaaGreatQfc0f38224b
set_option linter.unusedVariables false
set_option linter.unusedSimpArgs false
set_option maxRecDepth 100000
namespace Go.Proofs.YtgnccjojfebkeaaGreat
open Go Go.RowKit Go.BigFrame Cp
def lB:List Int:=[1,0,3,0,0]
def mB:List Int:=[0,2,3,0,0]
section
variable {F G:Nat→Prop} {w:World} {v u:Value}
end
end Go.Proofs.YtgnccjojfebkeaaGreat

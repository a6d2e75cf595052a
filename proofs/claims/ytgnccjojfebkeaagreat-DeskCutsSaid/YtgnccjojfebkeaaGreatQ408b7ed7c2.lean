/- What the laws of desks have in common. -/
import Derived.Test.YtgnccjojfebkeaaGreatQ721193eec0
import Derived.Test.YtgnccjojfebkeaaGreatQ48157a39b5
import Derived.Test.YtgnccjojfebkeaaGreatQ3b8532dffc
import Derived.Test.YtgnccjojfebkeaaGreatQeaca64021a
import Derived.Test.YtgnccjojfebkeaaGreatQ453a98ae2d
import Derived.Test.YtgnccjojfebkeaaGreatQfabe90118a
set_option linter.unusedVariables false
set_option linter.unusedSimpArgs false
set_option maxRecDepth 100000
namespace Go.Proofs.YtgnccjojfebkeaaGreat
open Go Go.RowKit Go.BigFrame Cp
theorem Vd8 {d:Dk} {a n:Int} (h:¬Q5n d a n=0):Q5o d a n=noK:=Qdh h
end Go.Proofs.YtgnccjojfebkeaaGreat

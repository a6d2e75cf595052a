/- Desks, plain: what is typed, cut, written; a note of one's own. -/
import Derived.Test.YtgnccjojfebkeaaGreatQed8dd0ae12
import Derived.Test.YtgnccjojfebkeaaGreatQ05c48fb51f
set_option linter.unusedVariables false
set_option linter.unusedSimpArgs false
set_option maxRecDepth 100000
namespace Go.Proofs.YtgnccjojfebkeaaGreat
open Go Cp
theorem Vee {d:Dk} {a n:Int} (h:Q5n d a n=0):RightK (Q5o d a n):=by
 obtain⟨h1,h2,h3⟩:=Qu3 h;have h':Qd2 d (Qhh (d,[]) a n) (Qhi (d,[]) a n)=0:=h;unfold Q5o Qhg;rw[if_pos h'];exact Qi9 (Qpq (Qee h1) h2) h3
end Go.Proofs.YtgnccjojfebkeaaGreat

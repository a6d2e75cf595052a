/- How many notes of each site: a map. What is wrong with a relay, by the program. -/
import Derived.Test.YtgnccjojfebkeaaGreatQb12723dfd3
import Derived.Test.YtgnccjojfebkeaaGreatQa70fadfe36
import Derived.Maps.OwnOps
import Derived.Maps.Views
import Derived.Deep.RegionLaw
import Derived.Deep.Cut
set_option linter.unusedVariables false
set_option linter.unusedSimpArgs false
set_option maxRecDepth 100000
namespace Go.Proofs.YtgnccjojfebkeaaGreat
open Go Go.RowKit Go.BigFrame Cp
theorem Qbt {α:Type} {R:Rd α} (g:Cp.Good R) {sz e base:Nat} {F G:Nat→Prop} {w:World} {v:Value} {l:List α} (h:OSl R sz e base F w v l) (hG:∀k,F k→k<w.heap.size→some k≠v.ownBlock→G k):OSl R sz e base G w v l:=by
 obtain⟨xs,h1,h2⟩:=h;exact⟨xs,h1,Qb7 g (fun k hk hl=>⟨hG k hk.1 hl hk.2,hk.2⟩) h2⟩
end Go.Proofs.YtgnccjojfebkeaaGreat

/- A part of a slice. -/
import Derived.Test.YtgnccjojfebkeaaGreatQb497ca1fba
import Derived.Test.YtgnccjojfebkeaaGreatQ453a98ae2d
set_option linter.unusedVariables false
set_option linter.unusedSimpArgs false
set_option maxRecDepth 100000
namespace Go.Proofs.YtgnccjojfebkeaaGreat
open Go Go.RowKit Cp
section
variable {α:Type} {R:Rd α} {sz:Nat} {F:Nat→Prop} {w:World} {l:List α}
theorem Ve7 {a:Option Addr} {n c:Nat} (h:RSl R sz F w (.slice a n c) l) {i:Nat} (hi:i≤n):RSl R sz F w (.slice a i c) (l.take i):=by
 obtain⟨a',cap,e,h1,h2,h3⟩:=h;injection e with e1 e2 e3
 subst e1;subst e2;subst e3;refine⟨_,_,by rw[List.length_take,Nat.min_eq_left hi],by rw[List.length_take];omega,h2,fun hne=> ?_⟩;obtain⟨b',o',e',hF,hl,hx⟩:=h3 (fun e=>hne (by rw[e];simp));refine⟨b',o',e',hF,hl,fun j x hj=> ?_⟩;rw[List.getElem?_take] at hj;split at hj
 ·exact hx j x hj
 ·cases hj
end
end Go.Proofs.YtgnccjojfebkeaaGreat

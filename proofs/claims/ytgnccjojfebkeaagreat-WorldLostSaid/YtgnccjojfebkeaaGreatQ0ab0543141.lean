/- Notes pulled. -/
import Derived.Test.YtgnccjojfebkeaaGreatQ37a248829e
import Derived.Test.YtgnccjojfebkeaaGreatQ2b02e7f86f
import Derived.Test.YtgnccjojfebkeaaGreatQ23fd3e177e
import Derived.Deep.CutRange
set_option linter.unusedVariables false
set_option linter.unusedSimpArgs false
set_option maxRecDepth 100000
namespace Go.Proofs.YtgnccjojfebkeaaGreat
open Go Go.RowKit Go.BigFrame Cp
def Q8n (w:World) (e:Ending) (w':World):Prop:=∃(a:Option Addr) (n c:Nat) (b:Option Addr) (m d:Nat),e= .returned (.agg #[.int .i64 noteN.site,.int .i64 noteN.number,.slice a n c,.slice b m d])∧RNo (fun k=>w.heap.size≤k) w' [.int .i64 noteN.site,.int .i64 noteN.number,.slice a n c,.slice b m d] noteN∧Ext w w'
theorem Q28 (w:World):Calls Tryz.prog 71 #[] w (Q8n w):=by
 refine(Q6n w).mono ?_;rintro e w' ⟨v,u,rfl,hn,hx⟩;have hn':=hn;obtain⟨v',u',he,_,_,hv,hu⟩:=hn';obtain⟨a,n,c,rfl⟩:=hv.slice;obtain⟨b,m,d,rfl⟩:=hu.slice;injection he with _ he
 injection he with _ he
 injection he with e1 he
 injection he with e2 _
 subst e1;subst e2;exact⟨a,n,c,b,m,d,rfl,hn,hx⟩
section
variable {F G:Nat→Prop} {w:World} {v:Value} {cs:List Value}
end
end Go.Proofs.YtgnccjojfebkeaaGreat

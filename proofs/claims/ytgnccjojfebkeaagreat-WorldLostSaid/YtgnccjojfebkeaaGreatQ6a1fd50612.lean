/- Arguments as they come in: relays. -/
import Derived.Test.YtgnccjojfebkeaaGreatQ17528aba9c
set_option linter.unusedVariables false
set_option linter.unusedSimpArgs false
set_option maxRecDepth 100000
namespace Go.Proofs.YtgnccjojfebkeaaGreat
open Go Go.RowKit Go.ChangeShapes Go.WideShapes Go.Deep Cp
section
variable {H:Type} {enc:TypeId×Value→H} {w:World} {sp:Nat→Bool} {held:Bool} {fuel:Nat}
def RRe (F:Nat→Prop) (w:World) (cs:List Value) (l:List No):Prop:=∃v,cs=[v]∧RSl RNo 4 F w v l
theorem Vh8:Tryz.prog.cellsOf 25=1:=by kernel_rfl
theorem Vki {α:Type} {l:List α} (h:l.length=1):∃a,l=[a]:=by
 match l,h with
 | [a],_=>exact⟨a,rfl⟩
theorem Vkq {cs:List Value} {y:DataW H×List MemPlace} (hw:Qh6 25 y.1) (h:DataW.trod enc Tryz.prog w 0 sp held fuel 25 cs=some y):∃r,RRe T0 w cs r:=by
 obtain⟨xs,n,_,rfl,hl,hx,hg⟩:=DataW.trod_struct Tryz.underlying25 h;obtain⟨c0,rfl⟩:=Vki (hl.trans Vh8);obtain⟨y0,rfl⟩:=Vki hx
 ··have g0:=hg 0 _ rfl;simp[Q9a] at g0;obtain⟨v,l,e0,i0⟩:=Q29 (Qg8 Tryz.underlying25 hw 0 _ _ rfl rfl) g0;simp at e0;exact⟨l,v,by rw[e0],i0⟩
end
section
variable {H:Type} {enc:TypeId×Value→H} {w:World} {sp:Nat→Bool} {held:Bool} {b:Nat} {r:Reach} {v:Value} {d:DataW H} {p:List MemPlace}
end
end Go.Proofs.YtgnccjojfebkeaaGreat

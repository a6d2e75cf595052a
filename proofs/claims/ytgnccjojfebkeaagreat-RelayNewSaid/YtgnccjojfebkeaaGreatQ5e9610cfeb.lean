/- Arguments as they come in: relays. -/
import Derived.Test.YtgnccjojfebkeaaGreatQ17528aba9c
set_option linter.unusedVariables false
set_option linter.unusedSimpArgs false
set_option maxRecDepth 100000
namespace Go.Proofs.YtgnccjojfebkeaaGreat
open Go Go.RowKit Go.ChangeShapes Go.WideShapes Go.Deep Cp
section
variable {H:Type} {enc:TypeId×Value→H} {w:World} {sp:Nat→Bool} {held:Bool} {fuel:Nat}
end
section
variable {H:Type} {enc:TypeId×Value→H} {w:World} {sp:Nat→Bool} {held:Bool} {b:Nat} {r:Reach} {v:Value} {d:DataW H} {p:List MemPlace}
theorem Vgb (hv:Value.okWide Tryz.prog w r b 23 v) (hw:Qh6 23 d) (h:DataW.Trod enc Tryz.prog w 0 sp held 23 v d p):∃l,RSl RNo 4 T0 w v l:=by
 obtain⟨a0,len0,cap0,rfl⟩:=okWide_slice Tryz.underlying23 hv;obtain⟨fuel,hf⟩:=h;obtain⟨u,l,e,hx⟩:=Q29 hw hf;simp[Value.cells] at e;subst e;exact⟨l,hx⟩
end
end Go.Proofs.YtgnccjojfebkeaaGreat

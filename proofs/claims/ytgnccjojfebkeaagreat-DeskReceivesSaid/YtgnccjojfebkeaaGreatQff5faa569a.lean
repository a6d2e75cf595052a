/- Arguments as they come in: notes. -/
import Derived.Test.YtgnccjojfebkeaaGreatQ17528aba9c
set_option linter.unusedVariables false
set_option linter.unusedSimpArgs false
set_option maxRecDepth 100000
namespace Go.Proofs.YtgnccjojfebkeaaGreat
open Go Go.RowKit Go.ChangeShapes Go.WideShapes Go.Deep Cp
section
variable {H:Type} {enc:TypeId×Value→H} {w:World} {sp:Nat→Bool} {held:Bool} {fuel:Nat}
end
section
variable {H:Type} {enc:TypeId×Value→H} {w:World} {sp:Nat→Bool} {held:Bool} {b:Nat} {r:Reach} {v:Value} {d:DataW H} {p:List MemPlace}
theorem Vfc (hv:Value.okWide Tryz.prog w r b 48 v) (hw:Qh6 48 d) (h:DataW.Trod enc Tryz.prog w 0 sp held 48 v d p):
  ∃cs s,v= .agg cs.toArray∧RNo T0 w cs s:=by
 obtain⟨cs,rfl,_⟩:=okWide_struct Tryz.underlying48 hv;obtain⟨fuel,hf⟩:=h;obtain⟨m,hm⟩:=Vbz hw hf;exact⟨cs.toList,m,by simp,hm⟩
end
end Go.Proofs.YtgnccjojfebkeaaGreat

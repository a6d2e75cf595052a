/- Arguments as they come in: worlds and happenings. -/
import Derived.Test.YtgnccjojfebkeaaGreatQ17528aba9c
import Derived.Test.YtgnccjojfebkeaaGreatQ952f851319
import Derived.Test.YtgnccjojfebkeaaGreatQ8a2ad513a3
import Derived.Test.YtgnccjojfebkeaaGreatQecc479509e
import Derived.Test.YtgnccjojfebkeaaGreatQ681ae46c05
import Derived.Test.YtgnccjojfebkeaaGreatQ6a1fd50612
import Derived.Test.YtgnccjojfebkeaaGreatQ8947f8eb7f
import Derived.Test.YtgnccjojfebkeaaGreatQc8663ec002
set_option linter.unusedVariables false
set_option linter.unusedSimpArgs false
set_option maxRecDepth 100000
namespace Go.Proofs.YtgnccjojfebkeaaGreat
open Go Go.RowKit Go.ChangeShapes Go.WideShapes Go.Deep Cp
section
variable {H:Type} {enc:TypeId×Value→H} {w:World} {sp:Nat→Bool} {held:Bool} {fuel:Nat}
theorem Vlk {α:Type} {l:List α} (h:l.length=8):∃a b c d e f g i,l=[a,b,c,d,e,f,g,i]:=by
 match l,h with
 | [a,b,c,d,e,f,g,i],_=>exact⟨a,b,c,d,e,f,g,i,rfl⟩
theorem Vja {α:Type} {l:List α} (h:l.length=2):∃a b,l=[a,b]:=by
 match l,h with
 | [a,b],_=>exact⟨a,b,rfl⟩
theorem Vhe:Tryz.prog.cellsOf 73=8:=kR
theorem Vh7:Tryz.prog.cellsOf 22=1:=kR
theorem Vkk:Tryz.prog.cellsOf 27=2:=kR
theorem Vj1 {cs:List Value} {y:DataW H×List MemPlace} (hw:Qh6 73 y.1) (h:DataW.trod enc Tryz.prog w 0 sp held fuel 73 cs=some y):∃r,RCl T0 w cs r:=by
 obtain⟨xs,n,_,rfl,hl,hx,hg⟩:=DataW.trod_struct Tryz.underlying73 h;obtain⟨c0,c1,c2,c3,c4,c5,c6,c7,rfl⟩:=Vlk (hl.trans Vhe);obtain⟨y0,y1,rfl⟩:=Vja hx
 ··have g0:=hg 0 _ rfl;have g1:=hg 1 _ rfl;simp[Qyn,Vbd] at g0 g1;obtain⟨d,i0⟩:=Vby (Qg8 Tryz.underlying73 hw 0 _ _ rfl rfl) g0;obtain⟨a,e1,i1⟩:=Qpv Tryz.underlying3 g1;simp at e1;obtain⟨va,vg,vs,vw,vo,e0,hr⟩:=i0;have i0:RDk T0 w [.int .i64 d.site,va,vg,vs,vw,.int .i64 d.clock,vo] d:=⟨va,vg,vs,vw,vo,rfl,hr⟩;simp at e0;obtain⟨e00,e01,e02,e03,e04,e05,e06⟩:=e0;exact⟨⟨d,a⟩,va,vg,vs,vw,vo,by rw[e00,e01,e02,e03,e04,e05,e06,e1],i0,i1⟩
theorem Viu {cs:List Value} {y:DataW H×List MemPlace} (hw:Qh6 22 y.1) (h:DataW.trod enc Tryz.prog w 0 sp held fuel 22 cs=some y):∃v l,cs=[v]∧RSl RCl 8 T0 w v l:=
 Vb0 oM Tryz.underlying22 Vhe (fun _ _ _ _ hs h=>Vj1 hs h) hw h
theorem Vkr {cs:List Value} {y:DataW H×List MemPlace} (hw:Qh6 27 y.1) (h:DataW.trod enc Tryz.prog w 0 sp held fuel 27 cs=some y):∃r,RWw T0 w cs r:=by
 obtain⟨xs,n,_,rfl,hl,hx,hg⟩:=DataW.trod_struct Tryz.underlying27 h;obtain⟨c0,c1,rfl⟩:=Vja (hl.trans Vkk);obtain⟨y0,y1,rfl⟩:=Vja hx
 ··have g0:=hg 0 _ rfl;have g1:=hg 1 _ rfl;simp[Vh7,Vh8] at g0 g1;obtain⟨v,l,e0,i0⟩:=Viu (Qg8 Tryz.underlying27 hw 0 _ _ rfl rfl) g0;obtain⟨r,u,e1,i1⟩:=Vkq (Qg8 Tryz.underlying27 hw 1 _ _ rfl rfl) g1;simp at e0 e1;exact⟨⟨l,r⟩,v,u,by rw[e0,e1],i0,i1⟩
end
section
variable {H:Type} {enc:TypeId×Value→H} {w:World} {sp:Nat→Bool} {held:Bool} {b:Nat} {r:Reach} {v:Value} {d:DataW H} {p:List MemPlace}
theorem Vju (hv:Value.okWide Tryz.prog w r b 27 v) (hw:Qh6 27 d) (h:DataW.Trod enc Tryz.prog w 0 sp held 27 v d p):
  ∃cs s,v= .agg cs.toArray∧RWw T0 w cs s:=by
 obtain⟨cs,rfl,_⟩:=okWide_struct Tryz.underlying27 hv;obtain⟨fuel,hf⟩:=h;obtain⟨m,hm⟩:=Vkr hw hf;exact⟨cs.toList,m,sI,hm⟩
end
end Go.Proofs.YtgnccjojfebkeaaGreat

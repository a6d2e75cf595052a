/- Arguments as they come in: worlds and happenings. -/
import Derived.Test.YtgnccjojfebkeaaGreatQ485c9863c6
import Derived.Test.YtgnccjojfebkeaaGreatQ18adcaac5d
import Derived.Test.YtgnccjojfebkeaaGreatQ7635b71608
import Derived.Test.YtgnccjojfebkeaaGreatQd02bb5fa7b
import Derived.Test.YtgnccjojfebkeaaGreatQff6e536ca3
import Derived.Test.YtgnccjojfebkeaaGreatQ28838248a8
import Derived.Test.YtgnccjojfebkeaaGreatQ14295164fe
import Derived.Test.YtgnccjojfebkeaaGreatQ530d01bf6a
set_option linter.unusedVariables false
set_option linter.unusedSimpArgs false
set_option maxRecDepth 100000
namespace Go.Proofs.YtgnccjojfebkeaaGreat
open Go Go.RowKit Go.ChangeShapes Go.WideShapes Go.Deep Cp
section
variable {H:Type} {enc:TypeId×Value→H} {w:World} {sp:Nat→Bool} {held:Bool} {fuel:Nat}
theorem Vlo {α:Type} {l:List α} (h:l.length=8):∃a b c d e f g i,l=[a,b,c,d,e,f,g,i]:=by
 match l,h with
 | [a,b,c,d,e,f,g,i],_=>exact⟨a,b,c,d,e,f,g,i,rfl⟩
theorem Vjb {α:Type} {l:List α} (h:l.length=2):∃a b,l=[a,b]:=by
 match l,h with
 | [a,b],_=>exact⟨a,b,rfl⟩
theorem Vk8:Tryz.prog.cellsOf 29=6:=kR
theorem Vkn:Tryz.prog.cellsOf 4=1:=kR
theorem Vhm:Tryz.prog.cellsOf 73=8:=kR
theorem Vig:Tryz.prog.cellsOf 22=1:=kR
theorem Vko:Tryz.prog.cellsOf 27=2:=kR
theorem Vlj {cs:List Value} {y:DataW H×List MemPlace} (h:DataW.trod enc Tryz.prog w 0 sp held fuel 29 cs=some y):∃r,RHp T0 w cs r:=by
 obtain⟨xs,n,_,rfl,hl,hx,hg⟩:=DataW.trod_struct Tryz.underlying29 h;obtain⟨c0,c1,c2,c3,c4,c5,rfl⟩:=Vd5 (hl.trans Vk8);obtain⟨y0,y1,y2,y3,y4,y5,rfl⟩:=Vd5 hx
 ··have g0:=hg 0 _ rfl;have g1:=hg 1 _ rfl;have g2:=hg 2 _ rfl;have g3:=hg 3 _ rfl;have g4:=hg 4 _ rfl;have g5:=hg 5 _ rfl;simp[Qyn,Vc6,Vkn] at g0 g1 g2 g3 g4 g5;obtain⟨a,e0,i0⟩:=Qpv Tryz.underlying3 g0;obtain⟨b,e1,i1⟩:=Qpv Tryz.underlying3 g1;obtain⟨c,e2,i2⟩:=Qpv Tryz.underlying3 g2;obtain⟨d,e3,i3⟩:=Qpv Tryz.underlying3 g3;obtain⟨s,e4,_⟩:=DataW.trod_string Tryz.underlying9 g4;obtain⟨b5,e5,_⟩:=DataW.trod_bool Tryz.underlying4 g5;simp at e0 e1 e2 e3 e4 e5;exact⟨⟨a,b,c,d,s,b5⟩,by rw[e0,e1,e2,e3,e4,e5],i0,i1,i2,i3⟩
theorem Vk9 {cs:List Value} {y:DataW H×List MemPlace} (hw:Qh6 106 y.1) (h:DataW.trod enc Tryz.prog w 0 sp held fuel 106 cs=some y):∃v l,cs=[v]∧RSl RHp 6 T0 w v l:=
 Vb0 oM Tryz.underlying106 Vk8 (fun _ _ _ _ _ h=>Vlj h) hw h
theorem Vj1 {cs:List Value} {y:DataW H×List MemPlace} (hw:Qh6 73 y.1) (h:DataW.trod enc Tryz.prog w 0 sp held fuel 73 cs=some y):∃r,RCl T0 w cs r:=by
 obtain⟨xs,n,_,rfl,hl,hx,hg⟩:=DataW.trod_struct Tryz.underlying73 h;obtain⟨c0,c1,c2,c3,c4,c5,c6,c7,rfl⟩:=Vlo (hl.trans Vhm);obtain⟨y0,y1,rfl⟩:=Vjb hx
 ··have g0:=hg 0 _ rfl;have g1:=hg 1 _ rfl;simp[Qyn,Vbd] at g0 g1;obtain⟨d,i0⟩:=Vby (Qg8 Tryz.underlying73 hw 0 _ _ rfl rfl) g0;obtain⟨a,e1,i1⟩:=Qpv Tryz.underlying3 g1;simp at e1;obtain⟨va,vg,vs,vw,vo,e0,hr⟩:=i0;have i0:RDk T0 w [.int .i64 d.site,va,vg,vs,vw,.int .i64 d.clock,vo] d:=⟨va,vg,vs,vw,vo,rfl,hr⟩;simp at e0;obtain⟨e00,e01,e02,e03,e04,e05,e06⟩:=e0;exact⟨⟨d,a⟩,va,vg,vs,vw,vo,by rw[e00,e01,e02,e03,e04,e05,e06,e1],i0,i1⟩
theorem Viy {cs:List Value} {y:DataW H×List MemPlace} (hw:Qh6 22 y.1) (h:DataW.trod enc Tryz.prog w 0 sp held fuel 22 cs=some y):∃v l,cs=[v]∧RSl RCl 8 T0 w v l:=
 Vb0 oM Tryz.underlying22 Vhm (fun _ _ _ _ hs h=>Vj1 hs h) hw h
theorem Vkv {cs:List Value} {y:DataW H×List MemPlace} (hw:Qh6 27 y.1) (h:DataW.trod enc Tryz.prog w 0 sp held fuel 27 cs=some y):∃r,RWw T0 w cs r:=by
 obtain⟨xs,n,_,rfl,hl,hx,hg⟩:=DataW.trod_struct Tryz.underlying27 h;obtain⟨c0,c1,rfl⟩:=Vjb (hl.trans Vko);obtain⟨y0,y1,rfl⟩:=Vjb hx
 ··have g0:=hg 0 _ rfl;have g1:=hg 1 _ rfl;simp[Vig,Vih] at g0 g1;obtain⟨v,l,e0,i0⟩:=Viy (Qg8 Tryz.underlying27 hw 0 _ _ rfl rfl) g0;obtain⟨r,u,e1,i1⟩:=Vku (Qg8 Tryz.underlying27 hw 1 _ _ rfl rfl) g1;simp at e0 e1;exact⟨⟨l,r⟩,v,u,by rw[e0,e1],i0,i1⟩
end
section
variable {H:Type} {enc:TypeId×Value→H} {w:World} {sp:Nat→Bool} {held:Bool} {b:Nat} {r:Reach} {v:Value} {d:DataW H} {p:List MemPlace}
theorem Vjv (hv:Value.okWide Tryz.prog w r b 27 v) (hw:Qh6 27 d) (h:DataW.Trod enc Tryz.prog w 0 sp held 27 v d p):
  ∃cs s,v= .agg cs.toArray∧RWw T0 w cs s:=by
 obtain⟨cs,rfl,_⟩:=okWide_struct Tryz.underlying27 hv;obtain⟨fuel,hf⟩:=h;obtain⟨m,hm⟩:=Vkv hw hf;exact⟨cs.toList,m,sI,hm⟩
theorem Vkr (hv:Value.okWide Tryz.prog w r b 106 v) (hw:Qh6 106 d) (h:DataW.Trod enc Tryz.prog w 0 sp held 106 v d p):∃l,RSl RHp 6 T0 w v l:=by
 obtain⟨a0,len0,cap0,rfl⟩:=okWide_slice Tryz.underlying106 hv;obtain⟨fuel,hf⟩:=h;obtain⟨u,l,e,hx⟩:=Vk9 hw hf;simp[Value.cells] at e;subst e;exact⟨l,hx⟩
end
end Go.Proofs.YtgnccjojfebkeaaGreat

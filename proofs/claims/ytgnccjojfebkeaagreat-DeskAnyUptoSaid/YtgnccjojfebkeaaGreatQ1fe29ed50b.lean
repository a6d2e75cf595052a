/- Plain facts on atoms: sorted atoms are what is to be seen of them at each mark; put in whatever order they are the same; what is taken is gone. -/
import Derived.Test.YtgnccjojfebkeaaGreatQb497ca1fba
import Derived.Test.YtgnccjojfebkeaaGreatQ453a98ae2d
set_option linter.unusedVariables false
set_option linter.unusedSimpArgs false
set_option maxRecDepth 100000
namespace Go.Proofs.YtgnccjojfebkeaaGreat
open Go Go.RowKit Cp
theorem Vea {r:List At} {x:Mk} (h:∀b∈r,Qau b.1 x≠0):Qk2 r x=none:=by
 induction r with
 |nil=>rfl
 |cons b r ih=>
  rw[Qdc,ih (fun c hc=>h c (by simp[hc]))];unfold one;rw[if_neg (h b sI)];rfl
theorem Vd8 {a:At} {r:List At} (h:Qa9 (a::r)):Qk2 (a::r) a.1=some a.2:=by
 rw[Qdc,Vea (fun b hb=>by have:=Qzk (Qcc h b hb);omega),Qic];unfold one;rw[if_pos (Qub _)]
theorem Vef {a:At} {r:List At} {x:Mk} (h:Qa9 (a::r)) (h1:Qau x a.1= -1):Qk2 (a::r) x=none:=by
 refine Vea (fun b hb=> ?_);rcases List.mem_cons.1 hb with rfl|hb
 ·have:=Qzk h1;omega
 ·have:=Qzk (Qck h1 (Qcc h b hb));omega
theorem Ve1:∀{l m:List At},Qa9 l→Qa9 m→(∀x,Qk2 l x=Qk2 m x)→l=m
 | [],[],_,_,_=>rfl
 | [],b::s,_,hm,h=>by have:=h b.1;rw[Vd8 hm] at this;simp[Qk2] at this
 |a::r,[],hl,_,h=>by have:=h a.1;rw[Vd8 hl] at this;simp[Qk2] at this
 |a::r,b::s,hl,hm,h=>by
  rcases Qbw a.1 b.1 with h1|h1|h1
  ·have:=h a.1;rw[Vd8 hl,Vef hm h1] at this;simp at this
  ·have e1:a.1=b.1:=ordM_zero.1 h1;have e2:a.2=b.2:=by
    have h2:=h a.1;rw[Vd8 hl,e1,Vd8 hm] at h2;exact Option.some.inj h2
   have e:a=b:=Prod.ext e1 e2;subst e;have:r=s:=by
    refine Ve1 (Qb3 hl) (Qb3 hm) (fun x=> ?_);by_cases h2:Qau a.1 x=0
    ·have e3:a.1=x:=ordM_zero.1 h2;subst e3;rw[Vea (fun b hb=>by have:=Qzk (Qcc hl b hb);omega),Vea (fun b hb=>by have:=Qzk (Qcc hm b hb);omega)]
    ·have h3:=h x;rw[Qdc,Qdc] at h3;unfold one at h3;rw[if_neg h2] at h3;exact h3
   rw[this]
  ·have:=h b.1;rw[Vd8 hm,Vef hl (Qk9 h1)] at this;simp at this
end Go.Proofs.YtgnccjojfebkeaaGreat

/- Desks, plain: what grows; one note where none waits; a desk that pulls all; two that tell each other; what is typed and cut. -/
import Derived.Test.YtgnccjojfebkeaaGreatQ05c48fb51f
import Derived.Test.YtgnccjojfebkeaaGreatQa70fadfe36
import Derived.Test.YtgnccjojfebkeaaGreatQ7826b3be5b
set_option linter.unusedVariables false
set_option linter.unusedSimpArgs false
set_option maxRecDepth 100000
namespace Go.Proofs.YtgnccjojfebkeaaGreat
open Go Cp
def Qu6 (d:Dk) (l:List De) (t:St) (c:Int):Dk:={d with state:=t,seen:=Qd3 d.seen d.site.toNat,clock:=d.clock+c,out:=d.out++[Qnc d l]}
theorem Q72 {s t:St} {l:List De} (hs:Qpy s) (hl:∀d∈l,Qat d=0) (h:Qfc s l=some t):Qne s l=0∧Qrn s l=t:=by
 have e:Qne s l=0:=allE_ok.2 ⟨hs,hl,by rw[h];simp⟩;exact⟨e,by unfold Qrn;rw[if_pos e,h];rfl⟩
def Qi0 (d:Dk) (p:Int) (t:Tx):Int:=
 if Qaq d≠0 then Qaq d else if 10001-d.clock<(t.length:Int) then 2 else if Qet d.state p t d.site d.clock≠0 then Qet d.state p t d.site d.clock else if atI d.seen d.site.toNat=500 then 2 else 0
theorem Qwm {s:St} {p:Int} {t:Tx} {site clock:Int} (h:Qet s p t site clock=0):∃k:Nat,p=(k:Int)∧Qfc s (Qj6 s p t site clock)=some (s.1.take k++Qf5 s k t site clock++s.1.drop k,s.2)∧Qj6 s p t site clock≠[]∧(Qj6 s p t site clock).length≤t.length:=by
 obtain⟨_,⟨k,rfl,_⟩,_,_,_,hne,_⟩:=Qfn h;obtain⟨f1,_,f3,f4,f5,_,f7⟩:=Qir h;refine⟨k,rfl,f7,fun e=> ?_,?_⟩
 ·rw[f3] at e;have e2:Qct (Qf5 s k t site clock)=[]:=by
   cases hr:Qct (Qf5 s k t site clock) with
   |nil=>rfl
   |cons a r=>rw[hr] at e;simp at e
  rw[e2] at f4;have:(Qf5 s k t site clock).length=0:=by rw[←f4];rfl
  rw[f1] at this;exact hne (List.eq_nil_of_length_eq_zero this)
 ·rw[f3,List.length_map,←f1];have:∀(rs:List Rn),(∀r∈rs,Qbd r=0)→rs.length≤(rs.flatMap Qav).length:=by
   intro rs;induction rs with
   |nil=>intro _;simp
   |cons r rs ih=>
    intro h;rw[List.flatMap_cons,List.length_append,List.length_cons];have h1:=ih (fun x hx=>h x (List.mem_cons_of_mem _ hx));have h2:=(Qb1 (h r (List.mem_cons_self ..))).2.1;have h3:(Qav r).length=r.2.length:=by simp[Qav]
    have h4:0<r.2.length:=List.length_pos_iff.2 h2;omega
  have:=this _ f5;rw[f4] at this;exact this
theorem Q4m {d:Dk} {p:Int} {t:Tx}:(Qi0 d p t≠0→Qjg d p t=Qi0 d p t)∧(Qi0 d p t=0→Qjg d p t=0∨(Qjg d p t=2∧20<t.length)):=by
 by_cases h1:Qaq d=0
 ·have hr:=checkK_ok.1 h1;have e1:Qjg d p t=if Qek (d,[]) p t≠0 then Qek (d,[]) p t else Qgq (Qgt (d,[]) p t):=by
   unfold Qjg Qd2;rw[if_neg (by simpa using h1)]
  have w1:Qi0 d p t=if 10001-d.clock<(t.length:Int) then 2 else if Qet d.state p t d.site d.clock≠0 then Qet d.state p t d.site d.clock else if atI d.seen d.site.toNat=500 then 2 else 0:=by
   unfold Qi0;rw[if_neg (by simpa using h1)]
  by_cases h2:10001-d.clock<(t.length:Int)
  ·rw[if_pos h2] at w1;have e2:Qek (d,[]) p t=2:=by unfold Qek;rw[if_pos h2]
   rw[e2,if_pos dC] at e1;exact⟨fun _=>by rw[e1,w1],fun h=>by rw[w1] at h;cases h⟩
  ·rw[if_neg h2] at w1;have e2:Qek (d,[]) p t=doE (d,[]) (Qet d.state p t d.site d.clock) (Qj6 d.state p t d.site d.clock):=by unfold Qek;rw[if_neg h2];rfl
   by_cases h3:Qet d.state p t d.site d.clock=0
   ·rw[if_neg (by simpa using h3)] at w1;obtain⟨k,_,k1,k2,k3⟩:=Qwm h3;have e3:Qek (d,[]) p t=0:=by
     rw[e2];unfold doE;rw[if_neg (by simpa using h3)];exact(Q72 hr.state (Qg5 h3) k1).1
    rw[e3,if_neg dC] at e1;have e4:Qgq (Qgt (d,[]) p t)=if 20<(Qj6 d.state p t d.site d.clock).length∨500<atI d.seen d.site.toNat+1 then 2 else 0:=by
     unfold Qgq;have:(Qgt (d,[]) p t).2=Qj6 d.state p t d.site d.clock:=rfl;rw[this,if_neg k2];rfl
    rw[e4] at e1;have hs5:=((checkI_iff.1 hr.seen).2 _ (Q7g hr.site)).2;by_cases h4:atI d.seen d.site.toNat=500
    ·rw[if_pos h4] at w1;rw[if_pos (.inr oM)] at e1;exact⟨fun _=>by rw[e1,w1],fun h=>by rw[w1] at h;cases h⟩
    ·rw[if_neg h4] at w1;refine⟨fun h=>absurd w1 h,fun _=> ?_⟩;by_cases h5:20<(Qj6 d.state p t d.site d.clock).length
     ·rw[if_pos (.inl h5)] at e1;exact .inr ⟨e1,oM⟩
     ·rw[if_neg (by rintro(h|h);exact h5 h;omega)] at e1;exact .inl e1
   ·rw[if_pos h3] at w1;have e3:Qek (d,[]) p t=Qet d.state p t d.site d.clock:=by rw[e2];unfold doE;rw[if_pos h3]
    rw[e3,if_pos h3] at e1;exact⟨fun _=>by rw[e1,w1],fun h=>absurd (w1.symm.trans h) h3⟩
 ·have e1:Qjg d p t=Qaq d:=by unfold Qjg Qd2;rw[if_pos h1]
  have w1:Qi0 d p t=Qaq d:=by unfold Qi0;rw[if_pos h1]
  exact⟨fun _=>by rw[e1,w1],fun h=>absurd (w1.symm.trans h) h1⟩
theorem Q7m {d:Dk} {p:Int} {t:Tx} (h:Qjg d p t=0):RightK d∧Qet d.state p t d.site d.clock=0∧∃s,Qfc d.state (Qj6 d.state p t d.site d.clock)=some s∧Qj8 d p t=Qu6 d (Qj6 d.state p t d.site d.clock) s t.length∧RightK (Qj8 d p t):=by
 obtain⟨h1,h2,h3⟩:=Qu3 h;have hp:Qet d.state p t d.site d.clock=0:=by
  unfold Qek at h2;by_cases g:10001-d.clock<(t.length:Int)
  ·rw[if_pos g] at h2;cases h2
  ·rw[if_neg g] at h2;exact(Q10 h2).1
 obtain⟨k,_,k1,k2,_⟩:=Qwm hp;refine⟨h1,hp,_,k1,?_,Q0g h⟩;have hv:Qj8 d p t=Qnb (Qgt (d,[]) p t):=by
  have h':Qd2 d (Qek (d,[]) p t) (Qgt (d,[]) p t)=0:=h;unfold Qj8 Qhg;rw[if_pos h']
 have h2':(Qgt (d,[]) p t).2=Qj6 d.state p t d.site d.clock:=rfl;have h1':(Qgt (d,[]) p t).1={d with state:=Qrn d.state (Qj6 d.state p t d.site d.clock),clock:=d.clock+t.length}:=rfl;rw[hv];unfold Qnb;rw[h2',if_neg k2,h1',(Q72 h1.state (Qg5 hp) k1).2];rfl
end Go.Proofs.YtgnccjojfebkeaaGreat

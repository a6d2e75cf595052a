/- Plain laws of deeds: in whatever order they are done; what is gone stays gone. -/
import Derived.Test.YtgnccjojfebkeaaGreatQed8dd0ae12
import Derived.Test.YtgnccjojfebkeaaGreatQ453a98ae2d
import Derived.Test.YtgnccjojfebkeaaGreatQ1fe29ed50b
set_option linter.unusedVariables false
set_option linter.unusedSimpArgs false
set_option maxRecDepth 100000
namespace Go.Proofs.YtgnccjojfebkeaaGreat
open Go Go.RowKit Cp
theorem Ver:∀{l m:List Mk},Qca l→Qca m→(∀x,Qc5 l x=Qc5 m x)→l=m
 | [],[],_,_,_=>rfl
 | [],b::m,_,_,h=>by
  have h1:=h b;rw[hasG_iff.2 (List.mem_cons_self ..)] at h1;simp[Qc5] at h1
 |a::l,[],_,_,h=>by
  have h1:=h a;rw[hasG_iff.2 (List.mem_cons_self ..)] at h1;simp[Qc5] at h1
 |a::l,b::m,hl,hm,h=>by
  have ha:=Qgm hl;have hb:=Qgm hm;have e:a=b:=by
   have h1:=h a;rw[hasG_iff.2 (List.mem_cons_self ..)] at h1;have h2:=hasG_iff.1 h1.symm;rcases List.mem_cons.1 h2 with rfl|h2
   ·rfl
   ·have h3:=h b;rw[hasG_iff.2 (List.mem_cons_self ..)] at h3;rcases List.mem_cons.1 (hasG_iff.1 h3) with rfl|h4
    ·rfl
    ·have h5:=hb a h2;have h6:=ha b h4;have h7:=Qo2 a b;omega
  subst e;refine congrArg (a:: ·) (Ver (Qiy hl) (Qiy hm) (fun x=> ?_));have hx:=h x;rw[Qfz,Qfz] at hx;by_cases hax:Qau a x=0
  ·have e:a=x:=ordM_zero.1 hax;subst e;have h1:Qc5 l a=false:=by
    cases h9:Qc5 l a with
    |false=>rfl
    |true=>have h8:=ha a (hasG_iff.1 h9);rw[hax] at h8;omega
   have h2:Qc5 m a=false:=by
    cases h9:Qc5 m a with
    |false=>rfl
    |true=>have h8:=hb a (hasG_iff.1 h9);rw[hax] at h8;omega
   rw[h1,h2]
  ·rw[decide_eq_false hax,Bool.false_or,Bool.false_or] at hx;exact hx
end Go.Proofs.YtgnccjojfebkeaaGreat
namespace Go.Proofs.YtgnccjojfebkeaaGreat
open Go Cp
theorem Vej {l:List No} {i:Nat} {x y:No} (hx:l[i]?=some x) (hy:y∈l):y=x∨y∈l.eraseIdx i:=by
 rw[Q7h hx] at hy;rw[Qxd];rcases List.mem_append.1 hy with h|h
 ·exact .inr (List.mem_append_left _ h)
 ·rcases List.mem_cons.1 h with h|h
  ·exact .inl h
  ·exact .inr (List.mem_append_right _ h)
theorem hasN_true {l:List No} {n:No}:Qu8 l n=true↔∃x∈l,x.site=n.site∧x.number=n.number:=by
 unfold Qu8;rw[List.any_eq_true];simp[ordN_zero]
inductive RunK:Dk→List No→Dk→Prop
 |nil (d:Dk):RunK d [] d
 |cons {d e:Dk} {i:Nat} {x:No} {t:St} {xs:List No}:Qb5 d.seen x=true→d.waits[i]?=some x→Qfc d.state x.deeds=some t→RunK (Ql6 d i x t) xs e→RunK d (x::xs) e
theorem Vei:∀{k:Nat} {d e:Dk},d.waits.length<k→Qkp k d=some e→∃xs,RunK d xs e∧∀n∈e.waits,Qb5 e.seen n=false
 |0,d,e,hk,_=>by omega
 |k+1,d,e,hk,h=>by
  unfold Qkp at h;cases hf:d.waits.findIdx? (Qb5 d.seen) with
  |none=>
   rw[hf] at h;injection h with h
   subst h;refine⟨[],.nil d,fun n hn=> ?_⟩;have:=List.findIdx?_eq_none_iff.1 hf n hn;simpa using this
  |some i=>
   rw[hf] at h;obtain⟨hi,hr,_⟩:=List.findIdx?_eq_some_iff_getElem.1 hf;have hx:d.waits[i]?=some d.waits[i]:=List.getElem?_eq_getElem hi;simp only[hx] at h;cases hd:Qfc d.state d.waits[i].deeds with
   |none=>rw[hd] at h;cases h
   |some t=>
    rw[hd] at h;have hlen:(Ql6 d i d.waits[i] t).waits.length=d.waits.length-1:=List.length_eraseIdx_of_lt hi;obtain⟨xs,h1,h2⟩:=Vei (k:=k) (by rw[hlen];omega) h;exact⟨_,.cons hr hx hd h1,h2⟩
theorem Vfr {d e:Dk} {xs:List No} (h:RunK d xs e) (hm:MidK d):MidK e:=by
 induction h with
 |nil=>exact hm
 |cons h1 h2 h3 _ ih=>exact ih (Q5u hm h1 h2 h3)
theorem Ve2 {d:Dk} (h:MidK d) (hl:d.waits.length≤40) (hr:∀n∈d.waits,Qb5 d.seen n=false):RightK d:=
 ⟨h.site,h.state,h.seen,hl,h.lo,h.nw,h.no,h.sorted,fun n hn=>⟨(h.waits n hn).1,(h.waits n hn).2.1,(h.waits n hn).2.2,hr n hn⟩,h.out,h.last,h.clock⟩
theorem Ves {d:Dk} {n:No} (h:Q2d d n=0):(Qva d n=true∧Q55 d n=d)∨(Qva d n=false∧Qfq d n=false∧∃x,Vbj d n=some x∧Q55 d n=x∧x.waits.length≤40):=by
 unfold Q2d at h;cases h1:Qva d n with
 |true=>exact .inl ⟨rfl,by unfold Q55;rw[if_pos h1]⟩
 |false=>
  rw[h1,if_neg sI] at h;cases h2:Qfq d n with
  |true=>rw[h2,if_pos rfl] at h;cases h
  |false=>
   rw[h2,if_neg sI] at h;cases h3:Vbj d n with
   |none=>rw[h3] at h;cases h
   |some x=>
    rw[h3] at h;by_cases h4:40<x.waits.length
    ·simp only[if_pos h4] at h;cases h
    ·exact .inr ⟨rfl,rfl,x,rfl,by unfold Q55;rw[if_neg (by rw[h1];simp),h3];rfl,oM⟩
theorem Vfk {d:Dk} {n:No} {x:Dk} (h:Vbj d n=some x):∃xs,RunK (Q4y d n) xs x∧∀y∈x.waits,Qb5 x.seen y=false:=
 Vei (by show(Qu9 d.waits n).length<_;rw[Qxf];omega) h
end Go.Proofs.YtgnccjojfebkeaaGreat

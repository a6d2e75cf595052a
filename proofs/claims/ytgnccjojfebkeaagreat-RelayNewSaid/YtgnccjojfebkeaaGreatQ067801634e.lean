/- Relays, plain. -/
import Derived.Test.YtgnccjojfebkeaaGreatQa70fadfe36
import Derived.Test.YtgnccjojfebkeaaGreatQed8dd0ae12
set_option linter.unusedVariables false
set_option linter.unusedSimpArgs false
set_option maxRecDepth 100000
namespace Go.Proofs.YtgnccjojfebkeaaGreat
open Go Cp
def Vea (l:List No) (site:Int):Nat:=l.countP fun n=>decide (n.site=site)
theorem Veq (l:List No) (n:No) (site:Int):Vea (l++[n]) site=Vea l site+if n.site=site then 1 else 0:=by
 unfold Vea;rw[List.countP_append,List.countP_singleton];simp
theorem Veo (l:List No) (site:Int):Vea l site≤l.length:=List.countP_le_length
theorem Ve7 {l:List No} {k:Nat} {n:No} (h:l[k]?=some n) (site:Int):Vea (l.take (k+1)) site=Vea (l.take k) site+if n.site=site then 1 else 0:=by
 obtain⟨h1,h2⟩:=List.getElem?_eq_some_iff.1 h;rw[List.take_succ_eq_append_getElem h1,h2,Veq]
def Veb:List No→List No→Int
 |_,[]=>0
 |pre,n::r=>if Qa0 n≠0 then Qa0 n else if n.number≠(Vea pre n.site:Int)+1 then 4 else Veb (pre++[n]) r
def Vd7 (l:List No):Int:=if 300<l.length then 2 else Veb [] l
theorem Ve4 {l:List No} {k:Nat} {n:No} (h:l[k]?=some n):Veb (l.take k) (l.drop k)=
  if Qa0 n≠0 then Qa0 n else if n.number≠(Vea (l.take k) n.site:Int)+1 then 4 else Veb (l.take (k+1)) (l.drop (k+1)):=by
 obtain⟨h1,h2⟩:=List.getElem?_eq_some_iff.1 h;have e:l.drop k=n::l.drop (k+1):=by rw[←h2];exact List.drop_eq_getElem_cons h1
 have e2:l.take (k+1)=l.take k++[n]:=by rw[List.take_succ_eq_append_getElem h1,h2]
 rw[e,e2];rfl
theorem Vfc (l:List No):Veb (l.take l.length) (l.drop l.length)=0:=by rw[List.drop_length];rfl
theorem Veu:∀{m l:List No},Veb l m=0↔∀(i:Nat) (n:No),m[i]?=some n→Qa0 n=0∧n.number=(Vea (l++m.take i) n.site:Int)+1
 | [],l=>⟨fun _ i n h=>by simp at h,fun _=>rfl⟩
 |x::m,l=>by
  have ih:=Veu (m:=m) (l:=l++[x])
  show(if Qa0 x≠0 then Qa0 x else if x.number≠(Vea l x.site:Int)+1 then 4 else Veb (l++[x]) m)=0↔_
  constructor
  ·intro h i n hi;by_cases h1:Qa0 x=0
   ·rw[if_neg (by simpa using h1)] at h;by_cases h2:x.number=(Vea l x.site:Int)+1
    ·rw[if_neg (by simpa using h2)] at h;cases i with
     |zero=>
      obtain rfl:x=n:=by simpa using hi
      exact⟨h1,by simpa using h2⟩
     |succ i=>
      have:=ih.1 h i n (by simpa using hi);rw[List.take_succ_cons]
      rwa [List.append_assoc] at this
    ·rw[if_pos h2] at h;cases h
   ·rw[if_pos h1] at h;exact absurd h h1
  ·intro h;obtain⟨h1,h2⟩:=h 0 x rfl;rw[if_neg (by simpa using h1),if_neg (by simpa using h2)];refine ih.2 fun i n hi=> ?_
   have:=h (i+1) n (by simpa using hi);rw[List.take_succ_cons] at this
   rwa [List.append_assoc]
theorem checkLog_ok {l:List No}:Vd7 l=0↔l.length≤300∧∀(i:Nat) (n:No),l[i]?=some n→Qa0 n=0∧n.number=(Vea (l.take i) n.site:Int)+1:=by
 unfold Vd7;by_cases h:300<l.length
 ·rw[if_pos h];exact⟨fun e=>(by cases e),fun e=>oM⟩
 ·rw[if_neg h,Veu];simp only[List.nil_append];exact⟨fun e=>⟨oM,e⟩,fun e=>e.2⟩
def Vee (l:List No) (n:No):Int:=
 if Vd7 l≠0 then Vd7 l else if Qa0 n≠0 then Qa0 n else if(Vea l n.site:Int)+1<n.number then 4
 else if n.number=(Vea l n.site:Int)+1∧l.length=300 then 2 else 0
def Vel (l:List No) (n:No):Bool:=decide (Vee l n=0) && decide (n.number=(Vea l n.site:Int)+1)
def Vek (l:List No) (n:No):List No:=if Vee l n=0 then(if n.number=(Vea l n.site:Int)+1 then l++[n] else l) else []
theorem Veg {l:List No} {n:No} (h:Vee l n=0):Vd7 l=0∧Qa0 n=0∧Vd7 (Vek l n)=0∧(Vel l n=true→Vek l n=l++[n])∧(Vel l n=false→Vek l n=l):=by
 have h0:=h;unfold Vee at h0;by_cases h1:Vd7 l=0
 ·rw[if_neg (by simpa using h1)] at h0;by_cases h2:Qa0 n=0
  ·rw[if_neg (by simpa using h2)] at h0;by_cases h3:(Vea l n.site:Int)+1<n.number
   ·rw[if_pos h3] at h0;cases h0
   ·rw[if_neg h3] at h0;by_cases h4:n.number=(Vea l n.site:Int)+1∧l.length=300
    ·rw[if_pos h4] at h0;cases h0
    ·refine⟨h1,h2,?_,?_,?_⟩
     ·unfold Vek;rw[if_pos h];split
      ·rename_i h5
       obtain⟨g1,g2⟩:=checkLog_ok.1 h1;refine checkLog_ok.2 ⟨?_,?_⟩
       ·rw[List.length_append];have:¬l.length=300:=fun e=>h4 ⟨h5,e⟩
        simp;omega
       ·intro i x hi;by_cases hlt:i<l.length
        ·rw[List.getElem?_append_left hlt] at hi;have:=g2 i x hi
         rwa [List.take_append_of_le_length oM]
        ·have hil:i=l.length:=by
          have:=(List.getElem?_eq_some_iff.1 hi).1;rw[List.length_append] at this;simp at this;omega
         subst hil;rw[List.getElem?_append_right (Nat.le_refl _)] at hi;obtain rfl:n=x:=by simpa using hi
         rw[List.take_left];exact⟨h2,h5⟩
      ·exact h1
     ·intro hb;unfold Vel at hb;rw[Bool.and_eq_true] at hb;unfold Vek;rw[if_pos h,if_pos (of_decide_eq_true hb.2)]
     ·intro hb;unfold Vel at hb;rw[decide_eq_true h] at hb;have:¬n.number=(Vea l n.site:Int)+1:=by simpa using hb
      unfold Vek;rw[if_pos h,if_neg this]
  ·rw[if_pos h2] at h0;exact absurd h0 h2
 ·rw[if_pos h1] at h0;exact absurd h0 h1
theorem Vgl {l:List No} {n:No} (h:¬Vee l n=0):Vek l n=[]∧Vel l n=false:=by
 unfold Vek Vel;rw[if_neg h,decide_eq_false h];exact⟨rfl,rfl⟩
def Vei (l:List No) (c m:Int):Int:=if Vd7 l≠0 then Vd7 l else if inB c 0 l.length=false∨inB m 0 300=false then 3 else 0
def Vez (l:List No) (c m:Int):List No:=if Vei l c m=0 then(l.drop c.toNat).take m.toNat else []
theorem Vfo {l:List No} {c m:Int} (h:Vei l c m=0):Vd7 l=0∧0≤c∧c≤l.length∧0≤m∧m≤300:=by
 unfold Vei at h;by_cases h1:Vd7 l=0
 ·rw[if_neg (by simpa using h1)] at h;by_cases h2:inB c 0 l.length=false∨inB m 0 300=false
  ·rw[if_pos h2] at h;cases h
  ·rw[not_or] at h2;obtain⟨h2,h3⟩:=h2;have h4:=(Bool.not_eq_false _).mp h2;have h5:=(Bool.not_eq_false _).mp h3;unfold inB at h4 h5;simp at h4 h5;exact⟨h1,h4.1,h4.2,h5.1,h5.2⟩
 ·rw[if_pos h1] at h;exact absurd h h1
theorem Ve8 {l:List No} {i:Nat} {x y:No} (hx:l[i]?=some x) (hy:y∈l):y=x∨y∈l.eraseIdx i:=by
 rw[Q7h hx] at hy;rw[Qxd];rcases List.mem_append.1 hy with h|h
 ·exact .inr (List.mem_append_left _ h)
 ·rcases List.mem_cons.1 h with h|h
  ·exact .inl h
  ·exact .inr (List.mem_append_right _ h)
theorem hasN_true {l:List No} {n:No}:Qu8 l n=true↔∃x∈l,x.site=n.site∧x.number=n.number:=by
 unfold Qu8;rw[List.any_eq_true];simp[ordN_zero]
inductive RunK:Dk→List No→Dk→Prop
 |nil (d:Dk):RunK d [] d
 |cons {d e:Dk} {i:Nat} {x:No} {t:St} {xs:List No}:Qb5 d.seen x=true→d.waits[i]?=some x→Qfc d.state x.deeds=some t→RunK (Ql6 d i x t) xs e→RunK d (x::xs) e
theorem Ve6:∀{k:Nat} {d e:Dk},d.waits.length<k→Qkp k d=some e→∃xs,RunK d xs e∧∀n∈e.waits,Qb5 e.seen n=false
 |0,d,e,hk,_=>by omega
 |k+1,d,e,hk,h=>by
  unfold Qkp at h;cases hf:d.waits.findIdx? (Qb5 d.seen) with
  |none=>
   rw[hf] at h;injection h with h
   subst h;refine⟨[],.nil d,fun n hn=> ?_⟩;have:=List.findIdx?_eq_none_iff.1 hf n hn;simpa using this
  |some i=>
   rw[hf] at h;obtain⟨hi,hr,_⟩:=List.findIdx?_eq_some_iff_getElem.1 hf;have hx:d.waits[i]?=some d.waits[i]:=List.getElem?_eq_getElem hi;simp only[hx] at h;cases hd:Qfc d.state d.waits[i].deeds with
   |none=>rw[hd] at h;cases h
   |some t=>
    rw[hd] at h;have hlen:(Ql6 d i d.waits[i] t).waits.length=d.waits.length-1:=List.length_eraseIdx_of_lt hi;obtain⟨xs,h1,h2⟩:=Ve6 (k:=k) (by rw[hlen];omega) h;exact⟨_,.cons hr hx hd h1,h2⟩
theorem Vg4 {d e:Dk} {xs:List No} (h:RunK d xs e) (hm:MidK d):MidK e:=by
 induction h with
 |nil=>exact hm
 |cons h1 h2 h3 _ ih=>exact ih (Q5u hm h1 h2 h3)
theorem Vfz {d:Dk} (h:MidK d) (hl:d.waits.length≤40) (hr:∀n∈d.waits,Qb5 d.seen n=false):RightK d:=
 ⟨h.site,h.state,h.seen,hl,h.lo,h.nw,h.no,h.sorted,fun n hn=>⟨(h.waits n hn).1,(h.waits n hn).2.1,(h.waits n hn).2.2,hr n hn⟩,h.out,h.last,h.clock⟩
theorem Vfl {d:Dk} {n:No} (h:Q2d d n=0):(Qva d n=true∧Q55 d n=d)∨(Qva d n=false∧Qfq d n=false∧∃x,Vbj d n=some x∧Q55 d n=x∧x.waits.length≤40):=by
 unfold Q2d at h;cases h1:Qva d n with
 |true=>exact .inl ⟨rfl,by unfold Q55;rw[if_pos h1]⟩
 |false=>
  rw[h1,if_neg sI] at h;cases h2:Qfq d n with
  |true=>rw[h2,if_pos rfl] at h;cases h
  |false=>
   rw[h2,if_neg sI] at h;cases h3:Vbj d n with
   |none=>rw[h3] at h;cases h
   |some x=>
    rw[h3] at h;by_cases h4:40<x.waits.length
    ·simp only[if_pos h4] at h;cases h
    ·exact .inr ⟨rfl,rfl,x,rfl,by unfold Q55;rw[if_neg (by rw[h1];simp),h3];rfl,oM⟩
theorem Vgy {d:Dk} {n:No} {x:Dk} (h:Vbj d n=some x):∃xs,RunK (Q4y d n) xs x∧∀y∈x.waits,Qb5 x.seen y=false:=
 Ve6 (by show(Qu9 d.waits n).length<_;rw[Qxf];omega) h
end Go.Proofs.YtgnccjojfebkeaaGreat

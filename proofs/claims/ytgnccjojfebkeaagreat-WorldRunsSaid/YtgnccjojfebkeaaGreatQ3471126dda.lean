/- Plain facts on marks: their order, what is right, and the gap between two of them. No program in sight. -/
set_option linter.unusedVariables false
set_option linter.unusedSimpArgs false
set_option maxRecDepth 100000
namespace Cp
abbrev Stp:=Int×Int
abbrev Mk:=List Stp×Int
def Qdl (a b:Int):Int:=if a<b then -1 else if b<a then 1 else 0
def Qh4 (a b:Stp):Int:=if Qdl a.1 b.1=0 then Qdl a.2 b.2 else Qdl a.1 b.1
def Qcq:List Stp→List Stp→Int
 | [],[]=>0
 | [],_::_=> -1
 |_::_,[]=>1
 |a::as,b::bs=>if Qh4 a b=0 then Qcq as bs else Qh4 a b
def Qau (a b:Mk):Int:=if Qcq a.1 b.1=0 then Qdl a.2 b.2 else Qcq a.1 b.1
theorem cmpI_zero {a b:Int}:Qdl a b=0↔a=b:=by unfold Qdl;split<;>(try split)<;>omega
theorem Qib (a b:Int):Qdl b a= - Qdl a b:=by
 unfold Qdl;repeat' split;all_goals omega
theorem Qkk {a b:Int}:Qdl a b= -1↔a<b:=by unfold Qdl;split<;>(try split)<;>omega
theorem Ql4 (a b:Int):Qdl a b= -1∨Qdl a b=0∨Qdl a b=1:=by unfold Qdl;split<;>(try split)<;>omega
theorem ordS_zero {a b:Stp}:Qh4 a b=0↔a=b:=by
 unfold Qh4;rcases a with⟨a1,a2⟩;rcases b with⟨b1,b2⟩
 simp only[Prod.mk.injEq];split
 ·rename_i h;rw[cmpI_zero] at h ⊢;simp[h]
 ·rename_i h;rw[cmpI_zero] at h;constructor
  ·intro h';rw[cmpI_zero] at h';exact absurd h' h
  ·intro h';exact absurd h'.1 h
theorem Qzm (a b:Stp):Qh4 a b= -1∨Qh4 a b=0∨Qh4 a b=1:=by
 unfold Qh4;split<;>exact Ql4 _ _
theorem Q3f (a b:Stp):Qh4 b a= - Qh4 a b:=by
 unfold Qh4;have h1:=Qib a.1 b.1;have h2:=Qib a.2 b.2;split<;>split<;>omega
theorem ordS_neg {a b:Stp}:Qh4 a b= -1↔a.1<b.1∨a.1=b.1∧a.2<b.2:=by
 unfold Qh4;split
 ·rename_i h;rw[cmpI_zero] at h;rw[Qkk];omega
 ·rename_i h;rw[cmpI_zero] at h;rw[Qkk];omega
theorem Qzo {a b c:Stp} (h:Qh4 a b= -1) (k:Qh4 b c= -1):Qh4 a c= -1:=by
 rw[ordS_neg] at *;omega
theorem Qqz:∀(a b:List Stp),Qcq a b= -1∨Qcq a b=0∨Qcq a b=1
 | [],[]=>by simp[Qcq]
 | [],_::_=>by simp[Qcq]
 |_::_,[]=>by simp[Qcq]
 |a::as,b::bs=>by
  unfold Qcq;split
  ·exact Qqz as bs
  ·exact Qzm a b
theorem ordP_zero:∀{a b:List Stp},Qcq a b=0↔a=b
 | [],[]=>by simp[Qcq]
 | [],_::_=>by simp[Qcq]
 |_::_,[]=>by simp[Qcq]
 |a::as,b::bs=>by
  unfold Qcq;split
  ·rename_i h;rw[ordS_zero] at h;rw[ordP_zero (a:=as) (b:=bs)];simp[h]
  ·rename_i h;constructor
   ·intro h';exact absurd h' h
   ·intro h';rw[ordS_zero] at h;simp at h';exact absurd h'.1 h
theorem Qud:∀(a b:List Stp),Qcq b a= - Qcq a b
 | [],[]=>by simp[Qcq]
 | [],_::_=>by simp[Qcq]
 |_::_,[]=>by simp[Qcq]
 |a::as,b::bs=>by
  unfold Qcq;have h1:=Q3f a b;have h2:=Qud as bs;split<;>split<;>omega
theorem Ql9:∀{a b c:List Stp},Qcq a b= -1→Qcq b c= -1→Qcq a c= -1
 | [],[],_=>by intro h;simp[Qcq] at h
 | [],_::_,[]=>by intro _ h;simp[Qcq] at h
 | [],_::_,_::_=>by intros;simp[Qcq]
 |_::_,[],_=>by intro h;simp[Qcq] at h
 |_::_,_::_,[]=>by intro _ h;simp[Qcq] at h
 |a::as,b::bs,c::cs=>by
  intro h k;unfold Qcq at h k ⊢;by_cases h1:Qh4 a b=0
  ·have e:=ordS_zero.1 h1;subst e;rw[if_pos h1] at h;by_cases h2:Qh4 a c=0
   ·rw[if_pos h2] at k ⊢;exact Ql9 h k
   ·rw[if_neg h2] at k ⊢;exact k
  ·rw[if_neg h1] at h;by_cases h2:Qh4 b c=0
   ·have e:=ordS_zero.1 h2;subst e;rw[if_neg h1];exact h
   ·rw[if_neg h2] at k;have:=Qzo h k;rw[if_neg (by omega)];exact this
theorem Qbw (a b:Mk):Qau a b= -1∨Qau a b=0∨Qau a b=1:=by
 unfold Qau;split
 ·exact Ql4 _ _
 ·exact Qqz _ _
theorem ordM_zero {a b:Mk}:Qau a b=0↔a=b:=by
 unfold Qau;rcases a with⟨a1,a2⟩;rcases b with⟨b1,b2⟩
 simp only[Prod.mk.injEq];split
 ·rename_i h;rw[ordP_zero] at h;rw[cmpI_zero];simp[h]
 ·rename_i h;constructor
  ·intro h';exact absurd h' h
  ·intro h';rw[ordP_zero] at h;exact absurd h'.1 h
theorem Qub (a:Mk):Qau a a=0:=ordM_zero.2 rfl
theorem Qo2 (a b:Mk):Qau b a= - Qau a b:=by
 unfold Qau;have h1:=Qud a.1 b.1;have h2:=Qib a.2 b.2;split<;>split<;>omega
theorem Qck {a b c:Mk} (h:Qau a b= -1) (k:Qau b c= -1):Qau a c= -1:=by
 unfold Qau at *;by_cases h1:Qcq a.1 b.1=0
 ·have e:=ordP_zero.1 h1;rw[if_pos h1] at h;rw[e];by_cases h2:Qcq b.1 c.1=0
  ·rw[if_pos h2] at k ⊢;rw[Qkk] at *;omega
  ·rw[if_neg h2] at k ⊢;exact k
 ·rw[if_neg h1] at h;by_cases h2:Qcq b.1 c.1=0
  ·have e:=ordP_zero.1 h2;rw[←e,if_neg h1];exact h
  ·rw[if_neg h2] at k;have:=Ql9 h k;rw[if_neg (by omega)];exact this
theorem ordM_lt {a b:Mk}:Qau a b<0↔Qau a b= -1:=by have:=Qbw a b;omega
def Qlt (s:Stp):Bool:= !(decide (0≤s.1) && decide (s.1≤200)) || !(decide (0≤s.2) && decide (s.2≤4))
def Qa6 (p:List Stp):Int:=(p.getLast?.map (·.1)).getD 0
def Qbq (p:List Stp):Int:=(p.getLast?.map (·.2)).getD 0
def Qaf (m:Mk):Int:=
 if 10<m.1.length then 2
 else if m.1=[] then 1
 else if m.1.any Qlt then 3
 else if Qa6 m.1=0∨¬(1≤m.2∧m.2≤10000) then 3
 else 0
theorem checkM_ok {m:Mk}:Qaf m=0↔m.1.length≤10∧m.1≠[]∧m.1.any Qlt=false∧Qa6 m.1≠0∧1≤m.2∧m.2≤10000:=by
 unfold Qaf;split
 ·constructor
  ·intro h;omega
  ·intro h;omega
 split
 ·rename_i h;constructor
  ·intro h;omega
  ·intro h';exact absurd h h'.2.1
 split
 ·rename_i h;constructor
  ·intro h;omega
  ·intro h';rw[h] at h';simp at h'
 split
 ·rename_i h;constructor
  ·intro h;omega
  ·intro h';omega
 ·rename_i h1 h2 h3 h4
  simp only[true_iff];refine⟨by omega,h2,by simpa using h3,by omega,by omega,by omega⟩
def Qb6 (p:List Stp) (by_:Int):List Stp:=
 match p with
 | []=> []
 | [s]=> [(s.1+by_,s.2)]
 |s::r=>s::Qb6 r by_
def Qar (m:Mk) (k:Int):Mk:=(Qb6 m.1 k,m.2+k)
def Qb9 (m:Mk) (k:Int):Mk×Int:=
 if Qaf m≠0 then(([],0),Qaf m)
 else if k<0∨60<k then(([],0),3)
 else if Qaf (Qar m k)≠0 then(([],0),3)
 else(Qar m k,0)
def Qbf (m:Mk):Bool:=m.1.isEmpty && decide (m.2=0)
theorem Qbk (p:List Stp) (s:Stp) (k:Int):Qb6 (p++[s]) k=p++[(s.1+k,s.2)]:=by
 induction p with
 |nil=>rfl
 |cons a r ih=>
  cases r with
  |nil=>rfl
  |cons b r'=>simp only[List.cons_append,Qb6] at ih ⊢;rw[ih]
theorem Qf7 {α:Type} {p:List α} (h:p≠[]):∃q s,p=q++[s]:=⟨p.dropLast,p.getLast h,(List.dropLast_concat_getLast h).symm⟩
theorem Qvf (p:List Stp) (j k:Int):Qb6 (Qb6 p j) k=Qb6 p (j+k):=by
 by_cases h:p=[]
 ·subst h;rfl
 ·obtain⟨q,s,rfl⟩:=Qf7 h;rw[Qbk,Qbk,Qbk];simp[Int.add_assoc]
theorem Qs5 (p:List Stp):Qb6 p 0=p:=by
 by_cases h:p=[]
 ·subst h;rfl
 ·obtain⟨q,s,rfl⟩:=Qf7 h;rw[Qbk];simp
theorem Qjs (p:List Stp) (k:Int):(Qb6 p k).length=p.length:=by
 by_cases h:p=[]
 ·subst h;rfl
 ·obtain⟨q,s,rfl⟩:=Qf7 h;rw[Qbk];simp
theorem Qlv (m:Mk) (j k:Int):Qar (Qar m j) k=Qar m (j+k):=by unfold Qar;rw[Qvf,Int.add_assoc]
theorem Qjt (m:Mk):Qar m 0=m:=by unfold Qar;rw[Qs5,Int.add_zero]
theorem Qzn (a:Stp):Qh4 a a=0:=ordS_zero.2 rfl
theorem Q3e (p a b:List Stp):Qcq (p++a) (p++b)=Qcq a b:=by
 induction p with
 |nil=>rfl
 |cons s r ih=>simp[Qcq,Qzn,ih]
theorem Q0y {m:Mk} (h:m.1≠[]) {j k:Int} (hj:j<k):Qau (Qar m j) (Qar m k)= -1:=by
 obtain⟨q,s,e⟩:=Qf7 h;have h1:Qcq (Qb6 m.1 j) (Qb6 m.1 k)= -1:=by
  rw[e,Qbk,Qbk,Q3e];have:Qh4 (s.1+j,s.2) (s.1+k,s.2)= -1:=ordS_neg.2 (.inl (by simp;omega));simp[Qcq,this]
 unfold Qau Qar;simp[h1]
theorem Qey (q:List Stp) (s:Stp):Qa6 (q++[s])=s.1:=by simp[Qa6]
theorem Qkw (q:List Stp) (s:Stp):Qbq (q++[s])=s.2:=by simp[Qbq]
theorem badS_ok {s:Stp}:Qlt s=false↔(0≤s.1∧s.1≤200∧0≤s.2∧s.2≤4):=by
 unfold Qlt;simp only[Bool.or_eq_false_iff,Bool.not_eq_false',Bool.and_eq_true,decide_eq_true_eq];omega
theorem Qfe (q:List Stp) (s:Stp):(q++[s]).any Qlt=(q.any Qlt ||Qlt s):=by simp
theorem Qki {m:Mk} {j k:Int} (h0:Qaf m=0) (hk:Qaf (Qar m k)=0) (hj0:0≤j) (hjk:j≤k):Qaf (Qar m j)=0:=by
 obtain⟨a1,a2,a3,a4,a5,a6⟩:=checkM_ok.1 h0;obtain⟨b1,b2,b3,b4,b5,b6⟩:=checkM_ok.1 hk;obtain⟨q,s,e⟩:=Qf7 a2;rw[checkM_ok];unfold Qar at *;simp only at *;rw[e,Qbk] at b3 b4;rw[e] at a3 a4;rw[Qfe,Bool.or_eq_false_iff] at a3 b3;rw[Qey] at a4 b4;obtain⟨c1,c2,c3,c4⟩:=badS_ok.1 a3.2;obtain⟨d1,d2,d3,d4⟩:=badS_ok.1 b3.2;simp only at d1 d2 d3 d4 b4;refine⟨by rw[Qjs];exact a1,?_,?_,?_,by omega,by omega⟩
 ·rw[e,Qbk];simp
 ·rw[e,Qbk,Qfe,Bool.or_eq_false_iff];exact⟨a3.1,badS_ok.2 ⟨by simp;omega,by simp;omega,c3,c4⟩⟩
 ·rw[e,Qbk,Qey];simp;omega
theorem nextM_ok {m:Mk} {k:Int}:(Qb9 m k).2=0↔Qaf m=0∧0≤k∧k≤60∧Qaf (Qar m k)=0:=by
 unfold Qb9;by_cases h1:Qaf m≠0
 ·rw[if_pos h1];simp only;constructor
  ·intro h;exact absurd h h1
  ·intro h;exact absurd h.1 h1
 rw[if_neg h1];by_cases h2:k<0∨60<k
 ·rw[if_pos h2];simp only;constructor
  ·intro h;omega
  ·intro h;omega
 rw[if_neg h2];by_cases h3:Qaf (Qar m k)≠0
 ·rw[if_pos h3];simp only;constructor
  ·intro h;omega
  ·intro h;exact absurd h.2.2.2 h3
 rw[if_neg h3];simp only[true_iff];exact⟨by omega,by omega,by omega,by omega⟩
theorem Qt9 {m:Mk} {k:Int} (h:(Qb9 m k).2=0):(Qb9 m k).1=Qar m k:=by
 obtain⟨h1,h2,h3,h4⟩:=nextM_ok.1 h;unfold Qb9;rw[if_neg (by omega),if_neg (by omega),if_neg (by omega)]
theorem Qe5 {m:Mk} {k:Int} (h:(Qb9 m k).2≠0):(Qb9 m k).1=([],0):=by
 unfold Qb9 at h ⊢;split
 ·rfl
 split
 ·rfl
 split
 ·rfl
 ·rename_i h1 h2 h3
  rw[if_neg h1,if_neg h2,if_neg h3] at h;exact absurd rfl h
end Cp
namespace Cp
abbrev Tx:=List UInt8
structure Edt where
 kind:Int
 at_:Int
 many:Int
 text:Tx
def Qdm (c:UInt8):Bool:=decide (32≤(c.toNat:Int)) && decide ((c.toNat:Int)≤126)
def Qbj (s:Tx):Bool:=s.all Qdm
def Qb8 (a m n:Int):Bool:=decide (0≤a) && decide (0≤m) && decide (a≤n) && decide (m≤n-a)
def lcs:Tx→Tx→Nat
 | [],_=>0
 |_::_,[]=>0
 |x::xs,y::ys=>if x=y then 1+lcs xs ys else max (lcs xs (y::ys)) (lcs (x::xs) ys)
termination_by a b=>a.length+b.length
theorem Q2v (a:Tx):lcs a []=0:=by cases a<;>simp[lcs]
theorem Qxh (x y:UInt8) (xs ys:Tx):lcs (x::xs) (y::ys)=if x=y then 1+lcs xs ys else max (lcs xs (y::ys)) (lcs (x::xs) ys):=by
 rw[lcs]
inductive Way:Tx→Tx→Nat→Prop
 |nil:Way [] [] 0
 |keep {a b n} (x:UInt8):Way a b n→Way (x::a) (x::b) n
 |del {a b n} (x:UInt8):Way a b n→Way (x::a) b (n+1)
 |ins {a b n} (x:UInt8):Way a b n→Way a (x::b) (n+1)
theorem Way.symm {a b:Tx} {n:Nat} (h:Way a b n):Way b a n:=by
 induction h with
 |nil=>exact .nil
 |keep x _ ih=>exact .keep x ih
 |del x _ ih=>exact .ins x ih
 |ins x _ ih=>exact .del x ih
theorem Way.trans {a c:Tx} {m:Nat} (h:Way a c m):∀{b:Tx} {n:Nat},Way c b n→∃k,k≤m+n∧Way a b k:=by
 induction h with
 |nil=>intro b n h;exact⟨n,by omega,h⟩
 | @keep a c m x h ih=>
  intro b n h2;generalize hc:x::c=c2 at h2;induction h2 with
  |nil=>cases hc
  |keep y h3=>
   injection hc with h4 h5
   subst h4;subst h5;obtain⟨k,hk,hw⟩:=ih h3;exact⟨k,hk,.keep x hw⟩
  |del y h3=>
   injection hc with h4 h5
   subst h4;subst h5;obtain⟨k,hk,hw⟩:=ih h3;exact⟨k+1,by omega,.del x hw⟩
  |ins y h3 ih3=>
   obtain⟨k,hk,hw⟩:=ih3 hc;exact⟨k+1,by omega,.ins y hw⟩
 | @del a c m x h ih=>
  intro b n h2;obtain⟨k,hk,hw⟩:=ih h2;exact⟨k+1,by omega,.del x hw⟩
 | @ins a c m x h ih=>
  intro b n h2;generalize hc:x::c=c2 at h2;induction h2 with
  |nil=>cases hc
  |keep y h3=>
   injection hc with h4 h5
   subst h4;subst h5;obtain⟨k,hk,hw⟩:=ih h3;exact⟨k+1,by omega,.ins x hw⟩
  |del y h3=>
   injection hc with h4 h5
   subst h4;subst h5;obtain⟨k,hk,hw⟩:=ih h3;exact⟨k,by omega,hw⟩
  |ins y h3 ih3=>
   obtain⟨k,hk,hw⟩:=ih3 hc;exact⟨k+1,by omega,.ins y hw⟩
theorem Qxi:∀(a b:Tx),lcs a b≤a.length∧lcs a b≤b.length
 | [],b=>by simp[lcs]
 |x::xs,[]=>by simp[lcs]
 |x::xs,y::ys=>by
  rw[Qxh];have h1:=Qxi xs ys;have h2:=Qxi xs (y::ys);have h3:=Qxi (x::xs) ys;simp only[List.length_cons] at *;split<;>omega
termination_by a b=>a.length+b.length
def far (a b:Tx):Nat:=a.length+b.length-2 * lcs a b
theorem Way.app {a b:Tx} {n:Nat} (h:Way a b n):∀{c d:Tx} {m:Nat},Way c d m→Way (a++c) (b++d) (n+m):=by
 induction h with
 |nil=>intro c d m h;simpa using h
 |keep x _ ih=>intro c d m h;exact .keep x (ih h)
 | @del _ _ n x _ ih=>intro c d m h;have:=Way.del x (ih h);rwa [Nat.add_right_comm] at this
 | @ins _ _ n x _ ih=>intro c d m h;have:=Way.ins x (ih h);rwa [Nat.add_right_comm] at this
def Qbc (out:List Edt) (k:Int):List Edt:=
 match out.getLast? with
 |some e=>if e.at_=k then out.dropLast++[{e with many:=e.many+1}] else out++[⟨2,k,1,[]⟩]
 |none=> [⟨2,k,1,[]⟩]
def Qcs (come:List Edt) (k:Int) (c:UInt8):List Edt:=
 match come.getLast? with
 |some e=>if e.at_+e.text.length=k∧e.text.length≠60 then come.dropLast++[{e with text:=e.text++[c]}] else come++[⟨1,k,0,[c]⟩]
 |none=> [⟨1,k,0,[c]⟩]
def Qc4:Tx→Tx→Int→Int→List Edt→List Edt→List Edt×List Edt
 | [],[],_,_,out,come=>(out,come)
 |_::xs,[],st,k,out,come=>Qc4 xs [] st k (Qbc out st) come
 | [],y::ys,st,k,out,come=>Qc4 [] ys st (k+1) out (Qcs come k y)
 |x::xs,y::ys,st,k,out,come=>
  if x=y then Qc4 xs ys (st+1) (k+1) out come
  else if lcs (x::xs) ys≤lcs xs (y::ys) then Qc4 xs (y::ys) st k (Qbc out st) come
  else Qc4 (x::xs) ys st (k+1) out (Qcs come k y)
termination_by a b=>a.length+b.length
def Vaa (a b:Tx):List Edt:=(Qc4 a b 0 0 [] []).1++(Qc4 a b 0 0 [] []).2
def Qea (a b:Tx):Int:=if 300<a.length∨300<b.length then 2 else if Qbj a=false∨Qbj b=false then 3 else 0
def Qh2 (a b:Tx):List Edt×Int:=if Qea a b≠0 then([],Qea a b) else(Vaa a b,0)
theorem Qz9 (a b:Tx):Qbj (a++b)=(Qbj a && Qbj b):=by simp[Qbj]
def Q0a:Tx→Tx→Tx
 | [],_=> []
 |_::_,[]=> []
 |x::xs,y::ys=>if x=y then x::Q0a xs ys else if lcs (x::xs) ys≤lcs xs (y::ys) then Q0a xs (y::ys) else Q0a (x::xs) ys
termination_by a b=>a.length+b.length
end Cp
namespace Cp
abbrev At:=Mk×UInt8
abbrev Rn:=Mk×Tx
def Qch (prev:Option Mk):List At→Int
 | []=>0
 |a::r=>
  if Qaf a.1≠0 then Qaf a.1
  else if Qdm a.2=false then 3
  else if(match prev with|some p=>decide (0≤Qau p a.1)|none=>false) then 4
  else Qch (some a.1) r
def Qb0 (l:List At):Int:=if 300<l.length then 2 else Qch none l
def Qa9:List At→Prop
 | []=>True
 | [_]=>True
 |a::b::r=>Qau a.1 b.1= -1∧Qa9 (b::r)
theorem checkAF_ok:∀{l:List At} {prev:Option Mk},Qch prev l=0↔
  (∀a∈l,Qaf a.1=0∧Qdm a.2=true)∧Qa9 l∧(∀p a,prev=some p→l.head?=some a→Qau p a.1= -1)
 | [],prev=>by simp[Qch,Qa9]
 |a::r,prev=>by
  unfold Qch;by_cases h1:Qaf a.1≠0
  ·rw[if_pos h1];constructor
   ·intro h;exact absurd h h1
   ·intro h;exact absurd (h.1 a (by simp)).1 h1
  rw[if_neg h1];by_cases h2:Qdm a.2=false
  ·rw[if_pos h2];constructor
   ·intro h;omega
   ·intro h;have:=(h.1 a (by simp)).2;rw[h2] at this;cases this
  rw[if_neg h2];have hh1:Qaf a.1=0:=by omega
  have hh2:Qdm a.2=true:=by simpa using h2
  by_cases h3:(match prev with|some p=>decide (0≤Qau p a.1)|none=>false)=true
  ·rw[if_pos h3];constructor
   ·intro h;omega
   ·intro h;cases prev with
    |none=>simp at h3
    |some p=>
     have:=h.2.2 p a rfl rfl;simp at h3;omega
  ·rw[if_neg h3,checkAF_ok (l:=r) (prev:=some a.1)];constructor
   ·rintro⟨g1,g2,g3⟩;refine⟨?_,?_,?_⟩
    ·intro x hx;rcases List.mem_cons.1 hx with rfl|hx
     ·exact⟨hh1,hh2⟩
     ·exact g1 x hx
    ·cases r with
     |nil=>trivial
     |cons b r'=>exact⟨g3 a.1 b rfl rfl,g2⟩
    ·intro p x hp hx;subst hp;have:a=x:=by simpa using hx
     subst this;simp at h3;have:=Qbw p a.1;omega
   ·rintro⟨g1,g2,g3⟩;refine⟨fun x hx=>g1 x (by simp[hx]),?_,?_⟩
    ·cases r with
     |nil=>trivial
     |cons b r'=>exact g2.2
    ·intro p x hp hx;cases r with
     |nil=>simp at hx
     |cons b r'=>
      have e1:a.1=p:=by simpa using hp
      have e2:b=x:=by simpa using hx
      subst e1;subst e2;exact g2.1
def Qc3 (l:List At):Tx:=l.map (·.2)
def Qel (l:List At) (m:Mk):Bool:=l.any fun a=>decide (Qau a.1 m=0)
def Qc5 (l:List Mk) (m:Mk):Bool:=l.any fun x=>decide (Qau x m=0)
def Qbd (r:Rn):Int:=
 if Qaf r.1≠0 then Qaf r.1
 else if r.2=[] then 1
 else if 60<r.2.length then 2
 else if Qbj r.2=false then 3
 else(Qb9 r.1 (r.2.length-1)).2
def Qav (r:Rn):List At:=(List.range r.2.length).map fun(i:Nat)=>(Qar r.1 (i:Int),r.2.getD i 0)
def Qeb (out:List Rn) (a:At):List Rn:=
 match out.getLast? with
 |some r=>if r.2.length<60∧Qau (Qar r.1 r.2.length) a.1=0 then out.dropLast++[(r.1,r.2++[a.2])] else out++[(a.1,[a.2])]
 |none=> [(a.1,[a.2])]
def Qct (l:List At):List Rn:=l.foldl Qeb []
end Cp
namespace Cp
theorem Qlx (r:Rn):(Qav r).length=r.2.length:=by simp[Qav]
theorem Qju (m:Mk) (s:UInt8) (u:Tx):Qav (m,s::u)=(m,s)::Qav (Qar m 1,u):=by
 unfold Qav;simp only[List.length_cons,List.range_succ_eq_map,List.map_cons,List.map_map];congr 1
 ·simp[Qjt]
 ·refine List.map_congr_left (fun i _=> ?_);simp[Qlv,Int.add_comm]
theorem Qp3:∀(t:Tx) (m:Mk) (u:Tx),Qav (m,t++u)=Qav (m,t)++Qav (Qar m t.length,u)
 | [],m,u=>by simp[Qjt];rfl
 |s::t,m,u=>by
  rw[List.cons_append,Qju,Qju,Qp3 t (Qar m 1) u,Qlv,List.cons_append];simp[Int.add_comm]
theorem Qly (m:Mk) (s:UInt8):Qav (m,[s])=[(m,s)]:=by rw[Qju];rfl
theorem Qvk (m:Mk) (t:Tx) (s:UInt8):Qav (m,t++[s])=Qav (m,t)++[(Qar m t.length,s)]:=by rw[Qp3,Qly]
theorem checkR_ok {r:Rn}:Qbd r=0↔Qaf r.1=0∧r.2≠[]∧r.2.length≤60∧Qbj r.2=true∧Qaf (Qar r.1 ((r.2.length:Int)-1))=0:=by
 unfold Qbd;constructor
 ·intro h;by_cases h1:Qaf r.1≠0
  ·rw[if_pos h1] at h;exact absurd h h1
  rw[if_neg h1] at h;by_cases h2:r.2=[]
  ·rw[if_pos h2] at h;omega
  rw[if_neg h2] at h;by_cases h3:60<r.2.length
  ·rw[if_pos h3] at h;omega
  rw[if_neg h3] at h;by_cases h4:Qbj r.2=false
  ·rw[if_pos h4] at h;omega
  rw[if_neg h4] at h;exact⟨by omega,h2,by omega,by simpa using h4,(nextM_ok.1 h).2.2.2⟩
 ·rintro⟨h1,h2,h3,h4,h5⟩;have hp:=List.length_pos_iff.2 h2;rw[if_neg (by omega),if_neg h2,if_neg (by omega),if_neg (by simp[h4])];exact nextM_ok.2 ⟨h1,by omega,by omega,h5⟩
def Va3 (r:Rn) (m:Mk):Prop:=r.2.length<60∧Qau (Qar r.1 r.2.length) m=0
def Qs3 (q:List Rn):Prop:=∀(i:Nat) (r r':Rn),q[i]?=some r→q[i+1]?=some r'→¬Va3 r r'.1
theorem Qln {α:Type} {ys:List α} {y z:α} {i:Nat} (h:(ys++[y])[i]?=some z):i<ys.length∧ys[i]?=some z∨i=ys.length∧z=y:=by
 by_cases h1:i<ys.length
 ·rw[List.getElem?_append_left h1] at h;exact .inl ⟨h1,h⟩
 ·rw[List.getElem?_append_right (by omega)] at h;have h2:i-ys.length=0:=by
   obtain⟨h3,_⟩:=List.getElem?_eq_some_iff.1 h;have h4:i-ys.length<1:=h3;omega
  rw[h2] at h;exact .inr ⟨by omega,by simpa using h.symm⟩
theorem Q03 {ys:List Rn} {y y':Rn} (h:Qs3 (ys++[y])) (e:y'.1=y.1):Qs3 (ys++[y']):=by
 intro i r r' h1 h2;rcases Qln h1 with⟨g1,g2⟩|⟨rfl,rfl⟩
 ·have k1:(ys++[y])[i]?=some r:=by rw[List.getElem?_append_left g1];exact g2
  rcases Qln h2 with⟨g3,g4⟩|⟨g3,rfl⟩
  ·exact h i r r' k1 (by rw[List.getElem?_append_left g3];exact g4)
  ·rw[e];exact h i r y k1 (by rw[g3];simp)
 ·rcases Qln h2 with⟨g3,_⟩|⟨g3,_⟩<;>omega
theorem Q01 {ys:List Rn} {y z:Rn} (h:Qs3 (ys++[y])) (e:¬Va3 y z.1):Qs3 (ys++[y]++[z]):=by
 intro i r r' h1 h2;rcases Qln h2 with⟨g1,g2⟩|⟨g1,rfl⟩
 ·rcases Qln h1 with⟨_,g4⟩|⟨g3,_⟩
  ·exact h i r r' g4 g2
  ·omega
 ·have hi:i=ys.length:=by simpa using g1
  subst hi;have:y=r:=by simpa using h1
  subst this;exact e
theorem Q02 (y:Rn):Qs3 [y]:=by
 intro i r r' _ h2;simp at h2
def Inv (q:List Rn) (l:List At):Prop:=q.flatMap Qav=l∧(∀r∈q,Qbd r=0)∧Qs3 q
theorem Qqd {a:At} (h1:Qaf a.1=0) (h2:Qdm a.2=true):Qbd (a.1,[a.2])=0:=
 checkR_ok.2 ⟨h1,by simp,by simp,by simp[Qbj,h2],by simp[Qjt,h1]⟩
theorem Q6b {q:List Rn} {l:List At} {a:At} (h:Inv q l) (h1:Qaf a.1=0) (h2:Qdm a.2=true):Inv (Qeb q a) (l++[a]):=by
 obtain⟨e,hc,ha⟩:=h;by_cases hq:q=[]
 ·subst hq;have:l=[]:=by simpa using e.symm
  subst this;refine⟨?_,?_,Q02 _⟩
  ·show [(a.1,[a.2])].flatMap Qav=[a]
   simp[Qly]
  ·intro r hr;have:r=(a.1,[a.2]):=by simpa [Qeb] using hr
   subst this;exact Qqd h1 h2
 ·obtain⟨ys,y,rfl⟩:=Qf7 hq;have hl:(ys++[y]).getLast?=some y:=by simp
  have hy:=hc y (by simp);obtain⟨c1,c2,c3,c4,c5⟩:=checkR_ok.1 hy;unfold Qeb;rw[hl];simp only;by_cases hj:y.2.length<60∧Qau (Qar y.1 y.2.length) a.1=0
  ·rw[if_pos hj];have hm:=ordM_zero.1 hj.2;rw[List.dropLast_concat];refine⟨?_,?_,Q03 ha rfl⟩
   ·rw[←e,List.flatMap_append,List.flatMap_append,List.append_assoc];congr 1
    obtain⟨m,t⟩:=y;simp only[List.flatMap_cons,List.flatMap_nil,List.append_nil];rw[Qvk];simp only at hm;rw[hm]
   ·intro r hr;rcases List.mem_append.1 hr with hr|hr
    ·exact hc r (by simp[hr])
    ·have:r=(y.1,y.2++[a.2]):=by simpa using hr
     subst this;refine checkR_ok.2 ⟨c1,by simp,by simp;omega,by rw[Qz9,c4];simp[Qbj,h2],?_⟩;have:((y.2++[a.2]).length:Int)-1=y.2.length:=by simp
     simp only[this,hm];exact h1
  ·rw[if_neg hj];refine⟨?_,?_,Q01 ha hj⟩
   ·rw[List.flatMap_append,e];simp[Qly]
   ·intro r hr;rcases List.mem_append.1 hr with hr|hr
    ·exact hc r hr
    ·have:r=(a.1,[a.2]):=by simpa using hr
     subst this;exact Qqd h1 h2
theorem Qxg:∀(l:List At) (q:List Rn) (p:List At),Inv q p→(∀a∈l,Qaf a.1=0∧Qdm a.2=true)→Inv (l.foldl Qeb q) (p++l)
 | [],q,p,h,_=>by simpa using h
 |a::l,q,p,h,hl=>by
  have h1:=hl a (by simp);have:=Qxg l (Qeb q a) (p++[a]) (Q6b h h1.1 h1.2) (fun x hx=>hl x (by simp[hx]));simpa using this
theorem Qtb {l:List At} (h:Qb0 l=0):∀a∈l,Qaf a.1=0∧Qdm a.2=true:=by
 unfold Qb0 at h;by_cases h1:300<l.length
 ·rw[if_pos h1] at h;omega
 ·rw[if_neg h1] at h;exact(checkAF_ok.1 h).1
theorem Qiv {l:List At} (h:Qb0 l=0):Inv (Qct l) l:=by
 have:=Qxg l [] [] ⟨rfl,by simp,by intro i r r' h1;simp at h1⟩ (Qtb h);rw[List.nil_append] at this;exact this
theorem Qhy:∀{l:List At},(∀(i:Nat) (a b:At),l[i]?=some a→l[i+1]?=some b→Qau a.1 b.1= -1)→Qa9 l
 | [],_=>trivial
 | [_],_=>trivial
 |a::b::r,h=>⟨h 0 a b rfl rfl,Qhy (fun i x y h1 h2=>h (i+1) x y (by simpa using h1) (by simpa using h2))⟩
theorem Qlw {r:Rn} {i:Nat} {a:At} (h:(Qav r)[i]?=some a):∃h:i<r.2.length,a=(Qar r.1 i,r.2[i]):=by
 have hi:i<r.2.length:=by
  obtain⟨h1,_⟩:=List.getElem?_eq_some_iff.1 h
  rwa [Qlx] at h1
 refine⟨hi,?_⟩;unfold Qav at h;rw[List.getElem?_map,List.getElem?_range hi] at h;simpa [hi] using h.symm
theorem Qjv {r:Rn} (h:Qbd r=0):Qb0 (Qav r)=0:=by
 obtain⟨c1,c2,c3,c4,c5⟩:=checkR_ok.1 h;have hm:r.1.1≠[]:=(checkM_ok.1 c1).2.1;unfold Qb0;rw[if_neg (by rw[Qlx];omega)];refine checkAF_ok.2 ⟨?_,Qhy ?_,by simp⟩
 ·intro a ha;obtain⟨i,hi⟩:=List.getElem?_of_mem ha;obtain⟨h1,rfl⟩:=Qlw hi;refine⟨Qki c1 c5 (by omega) (by omega),?_⟩;exact List.all_eq_true.1 c4 _ (List.getElem_mem h1)
 ·intro i a b h1 h2;obtain⟨_,rfl⟩:=Qlw h1;obtain⟨_,rfl⟩:=Qlw h2;exact Q0y hm (by omega)
end Cp
namespace Cp
structure Gap where
 path:List Stp
 least:Int
 most:Int
def Qbo (pre:List Stp):List Stp→Gap
 | []=>⟨pre,1,200⟩
 |s::r=>if s.1<200 then⟨pre,s.1+1,200⟩ else Qbo (pre++[s]) r
def Qcg (site:Int) (pre:List Stp):List Stp→Gap
 | []=>⟨pre,1,200⟩
 |s::r=>if 1<s.1 then⟨pre,1,s.1-1⟩ else if s.1=1 then⟨pre++[(0,site)],1,200⟩ else Qcg site (pre++[s]) r
def Qfy (site:Int) (pre:List Stp):List Stp→List Stp→Gap
 | [],b=>Qcg site pre b
 |a::as,[]=>Qbo pre (a::as)
 |a::as,b::bs=>if a=b then Qfy site (pre++[a]) as bs else if 1<b.1-a.1 then⟨pre,a.1+1,b.1-1⟩ else Qbo (pre++[a]) as
def Qdp (a b:List Stp) (site:Int):Gap:=if b=[] then Qbo [] a else Qfy site [] a b
def Qyg (g:Gap) (q:List Stp):Prop:=∃d s r,g.least≤d∧d≤g.most∧q=g.path++(d,s)::r
def Qa5 (a b:Mk) (site clock many:Int):Int:=
 if Qaf a≠0∧Qbf a=false then Qaf a
 else if Qaf b≠0∧Qbf b=false then Qaf b
 else if¬(0≤site∧site≤4)∨¬(1≤clock∧clock≤10000)∨¬(1≤many∧many≤60)∨10001-many<clock then 3
 else if(Qbf a=false∧Qbf b=false)∧(0≤Qau a b∨a.1=b.1) then 4
 else if 8<a.1.length∨8<b.1.length then 2
 else 0
def Qcz (a b:Mk) (site many:Int):Gap:=
 let g:=Qdp a.1 b.1 site
 if g.most-g.least+1<many then⟨g.path++[(g.least,site)],1,200⟩ else g
def Qdk (a b:Mk) (site clock many:Int):List Mk:=
 let g:=Qcz a b site many
 (List.range many.toNat).map fun(i:Nat)=>(g.path++[(g.least+(i:Int),site)],clock+(i:Int))
def okS (s:Stp):Prop:=0≤s.1∧s.1≤200∧0≤s.2∧s.2≤4
theorem Qyk {s:Stp}:Qlt s=false↔okS s:=by
 unfold Qlt okS;simp only[Bool.or_eq_false_iff,Bool.not_eq_false',Bool.and_eq_true,decide_eq_true_eq];omega
theorem any_badS {p:List Stp}:p.any Qlt=false↔∀s∈p,okS s:=by
 induction p with
 |nil=>simp
 |cons s r ih=>simp only[List.any_cons,Bool.or_eq_false_iff,ih,Qyk,List.mem_cons,forall_eq_or_imp]
theorem Que (a:Stp):Qh4 a a=0:=ordS_zero.2 rfl
theorem Qsj (p a b:List Stp):Qcq (p++a) (p++b)=Qcq a b:=by
 induction p with
 |nil=>rfl
 |cons s r ih=>simp[Qcq,Que,ih]
theorem Qno (p:List Stp) (s:Stp) (r:List Stp):Qcq p (p++s::r)= -1:=by
 have:=Qsj p [] (s::r);simpa [Qcq] using this
theorem Qfm {p:List Stp} {s t:Stp} {r u:List Stp} (h:s.1<t.1):Qcq (p++s::r) (p++t::u)= -1:=by
 rw[Qsj];have h1:Qh4 s t= -1:=ordS_neg.2 (.inl h);simp[Qcq,h1]
theorem Qjr:∀(r pre:List Stp),(∀s∈r,0≤s.1∧s.1≤200)→
  (1≤(Qbo pre r).least∧(Qbo pre r).least≤(Qbo pre r).most∧(Qbo pre r).most≤200)∧
  (Qbo pre r).path.length≤pre.length+r.length∧(∃u,(Qbo pre r).path=pre++u∧∀s∈u,s∈r)∧
  ∀q,Qyg (Qbo pre r) q→Qcq (pre++r) q= -1
 | [],pre,_=>by
  refine⟨by simp[Qbo],by simp[Qbo],⟨[],by simp[Qbo]⟩,?_⟩;rintro q ⟨d,s,u,_,_,rfl⟩;simpa [Qbo] using Qno pre (d,s) u
 |t::r,pre,h=>by
  have ht:=h t (by simp);by_cases hlt:t.1<200
  ·have e:Qbo pre (t::r)=⟨pre,t.1+1,200⟩:=by simp[Qbo,hlt]
   rw[e];refine⟨by simp;omega,by simp,⟨[],by simp⟩,?_⟩;rintro q ⟨d,s,u,h1,_,rfl⟩;exact Qfm (by simp at h1 ⊢;omega)
  ·have e:Qbo pre (t::r)=Qbo (pre++[t]) r:=by simp[Qbo,hlt]
   rw[e];obtain⟨h1,h2,⟨u,h3,h4⟩,h5⟩:=Qjr r (pre++[t]) (fun s hs=>h s (by simp[hs]));refine⟨h1,by simp at h2 ⊢;omega,⟨t::u,by rw[h3];simp,fun s hs=> ?_⟩,fun q hq=> ?_⟩
   ·rcases List.mem_cons.1 hs with rfl|hs
    ·simp
    ·simp[h4 s hs]
   ·have:=h5 q hq;simpa using this
theorem Qn1 (site:Int):∀(r pre:List Stp),(∀s∈r,0≤s.1∧s.1≤200)→r≠[]→Qa6 r≠0→
  (1≤(Qcg site pre r).least∧(Qcg site pre r).least≤(Qcg site pre r).most∧(Qcg site pre r).most≤200)∧
  (Qcg site pre r).path.length≤pre.length+r.length∧(∃u,(Qcg site pre r).path=pre++u∧∀s∈u,s∈r∨s=(0,site))∧
  ∀q,Qyg (Qcg site pre r) q→Qcq q (pre++r)= -1∧Qcq pre q= -1
 | [],pre,_,h,_=>absurd rfl h
 |t::r,pre,h,_,hl=>by
  have ht:=h t (by simp);by_cases h1:1<t.1
  ·have e:Qcg site pre (t::r)=⟨pre,1,t.1-1⟩:=by simp[Qcg,h1]
   rw[e];refine⟨by simp;omega,by simp,⟨[],by simp⟩,?_⟩;rintro q ⟨d,s,u,_,h2,rfl⟩;exact⟨Qfm (by simp at h2 ⊢;omega),Qno pre _ _⟩
  by_cases h2:t.1=1
  ·have e:Qcg site pre (t::r)=⟨pre++[(0,site)],1,200⟩:=by simp[Qcg,h2]
   rw[e];refine⟨by simp,by simp,⟨[(0,site)],by simp⟩,?_⟩;rintro q ⟨d,s,u,_,_,rfl⟩;simp only[List.append_assoc,List.cons_append,List.nil_append];exact⟨Qfm (by simp;omega),Qno pre _ _⟩
  ·have e:Qcg site pre (t::r)=Qcg site (pre++[t]) r:=by simp[Qcg,h1,h2]
   rw[e];cases r with
   |nil=>simp[Qa6] at hl;omega
   |cons t' r'=>
    obtain⟨h3,h4,⟨u,h5,h6⟩,h7⟩:=Qn1 site (t'::r') (pre++[t]) (fun s hs=>h s (by simp at hs ⊢;right;exact hs)) (by simp) (by simpa [Qa6] using hl);refine⟨h3,by simp at h4 ⊢;omega,⟨t::u,by rw[h5];simp,fun s hs=> ?_⟩,fun q hq=> ?_⟩
    ·rcases List.mem_cons.1 hs with rfl|hs
     ·simp
     ·rcases h6 s hs with h'|h'
      ·left;simp at h' ⊢;right;exact h'
      ·right;exact h'
    ·obtain⟨h8,h9⟩:=h7 q hq;refine⟨by simpa using h8,?_⟩;have hp:=Qno pre t [];exact Ql9 hp h9
theorem Qqn (site:Int):∀(a b pre:List Stp),(∀s∈a,0≤s.1∧s.1≤200)→(∀s∈b,0≤s.1∧s.1≤200)→
  (b≠[]→Qa6 b≠0)→Qcq a b= -1→
  (1≤(Qfy site pre a b).least∧(Qfy site pre a b).least≤(Qfy site pre a b).most∧(Qfy site pre a b).most≤200)∧
  (Qfy site pre a b).path.length≤pre.length+max a.length b.length∧(∃u,(Qfy site pre a b).path=pre++u∧∀s∈u,s∈a∨s∈b∨s=(0,site))∧
  ∀q,Qyg (Qfy site pre a b) q→Qcq (pre++a) q= -1∧Qcq q (pre++b)= -1
 | [],b,pre,_,hb,hl,ho=>by
  have hne:b≠[]:=by rintro rfl;simp[Qcq] at ho
  have e:Qfy site pre [] b=Qcg site pre b:=by cases b<;>rfl
  rw[e];obtain⟨h1,h2,⟨u,h3,h4⟩,h5⟩:=Qn1 site b pre hb hne (hl hne);refine⟨h1,by simpa using h2,⟨u,h3,fun s hs=> ?_⟩,fun q hq=> ?_⟩
  ·rcases h4 s hs with h|h
   ·exact .inr (.inl h)
   ·exact .inr (.inr h)
  ·exact⟨by simpa using (h5 q hq).2,(h5 q hq).1⟩
 |a::as,[],pre,_,_,_,ho=>by simp[Qcq] at ho
 |a::as,b::bs,pre,ha,hb,hl,ho=>by
  have ha0:=ha a (by simp);have hb0:=hb b (by simp);by_cases hab:a=b
  ·subst hab;have e:Qfy site pre (a::as) (a::bs)=Qfy site (pre++[a]) as bs:=by simp[Qfy]
   rw[e];have ho':Qcq as bs= -1:=by simpa [Qcq,Que] using ho
   obtain⟨h1,h2,⟨u,h3,h4⟩,h5⟩:=Qqn site as bs (pre++[a]) (fun s hs=>ha s (by simp[hs])) (fun s hs=>hb s (by simp[hs]))
    (fun hne=>by
     have:=hl (by simp);cases bs with
     |nil=>exact absurd rfl hne
     |cons x y=>simpa [Qa6] using this) ho'
   refine⟨h1,?_,⟨a::u,by rw[h3];simp,fun s hs=> ?_⟩,fun q hq=> ?_⟩
   ·simp only[List.length_append,List.length_cons,List.length_nil] at h2 ⊢;omega
   ·rcases List.mem_cons.1 hs with rfl|hs
    ·exact .inl (by simp)
    ·rcases h4 s hs with h|h|h
     ·exact .inl (by simp[h])
     ·exact .inr (.inl (by simp[h]))
     ·exact .inr (.inr h)
   ·have:=h5 q hq;simpa using this
  ·have hs:Qh4 a b= -1:=by
    by_cases h0:Qh4 a b=0
    ·exact absurd (ordS_zero.1 h0) hab
    ·simpa [Qcq,h0] using ho
   have hd:a.1≤b.1:=by rw[ordS_neg] at hs;omega
   by_cases h1:1<b.1-a.1
   ·have e:Qfy site pre (a::as) (b::bs)=⟨pre,a.1+1,b.1-1⟩:=by simp[Qfy,hab,h1]
    rw[e];refine⟨by simp;omega,by simp,⟨[],by simp⟩,?_⟩;rintro q ⟨d,s,u,h2,h3,rfl⟩;simp only at h2 h3;exact⟨Qfm (by simp;omega),Qfm (by simp;omega)⟩
   ·have e:Qfy site pre (a::as) (b::bs)=Qbo (pre++[a]) as:=by simp[Qfy,hab,h1]
    rw[e];obtain⟨h2,h3,⟨u,h4,h5⟩,h6⟩:=Qjr as (pre++[a]) (fun s hs=>ha s (by simp[hs]));refine⟨h2,?_,⟨a::u,by rw[h4];simp,fun s hs=> ?_⟩,fun q hq=>⟨?_,?_⟩⟩
    ·simp only[List.length_append,List.length_cons,List.length_nil] at h3 ⊢;omega
    ·rcases List.mem_cons.1 hs with rfl|hs
     ·exact .inl (by simp)
     ·exact .inl (by simp[h5 s hs])
    ·have:=h6 q hq;simpa using this
    ·obtain⟨d,s,r,_,_,rfl⟩:=hq;rw[h4];simp only[List.append_assoc,List.cons_append,List.nil_append];rw[Qsj];simp[Qcq,hs]
theorem Qtq (a b:List Stp) (site:Int) (ha:∀s∈a,0≤s.1∧s.1≤200) (hb:∀s∈b,0≤s.1∧s.1≤200)
  (hl:b≠[]→Qa6 b≠0) (ho:b≠[]→Qcq a b= -1):
  (1≤(Qdp a b site).least∧(Qdp a b site).least≤(Qdp a b site).most∧(Qdp a b site).most≤200)∧
  (Qdp a b site).path.length≤max a.length b.length∧(∀s∈(Qdp a b site).path,s∈a∨s∈b∨s=(0,site))∧
  ∀q,Qyg (Qdp a b site) q→Qcq a q= -1∧(b≠[]→Qcq q b= -1):=by
 unfold Qdp;by_cases hne:b=[]
 ·rw[if_pos hne];obtain⟨h1,h2,⟨u,h3,h4⟩,h5⟩:=Qjr a [] ha;refine⟨h1,by simp at h2;omega,fun s hs=> ?_,fun q hq=>⟨by simpa using h5 q hq,fun h=>absurd hne h⟩⟩;rw[h3] at hs;exact .inl (h4 s (by simpa using hs))
 ·rw[if_neg hne];obtain⟨h1,h2,⟨u,h3,h4⟩,h5⟩:=Qqn site a b [] ha hb hl (ho hne);refine⟨h1,by simpa using h2,fun s hs=> ?_,fun q hq=> ?_⟩
  ·rw[h3] at hs;exact h4 s (by simpa using hs)
  ·have:=h5 q hq;exact⟨by simpa using this.1,fun _=>by simpa using this.2⟩
def Qys (a b:Mk) (many:Int):Int:=(max a.1.length b.1.length:Nat)+1+(if 1<many then 1 else 0)
def Vdn (a b:Mk) (site clock many:Int) (l:List Mk) (i:Nat):Bool:=
 let m:=l.getD i ([],0)
 decide (Qaf m=0) && decide (m.2=clock+i) && decide (Qbq m.1=site) && decide ((m.1.length:Int)≤Qys a b many) &&
 (decide (i=0) ||decide (Qau (l.getD (i-1) ([],0)) m<0)) && (Qbf a ||decide (Qau a m<0)) && (Qbf b ||decide (Qau m b<0))
def Qi4 (a b:Mk) (site clock many:Int) (l:List Mk):Bool:=
 decide ((l.length:Int)=many) && (List.range l.length).all fun i=>Vdn a b site clock many l i
theorem Qsc (p:List Stp) (s:Stp):Qa6 (p++[s])=s.1:=by simp[Qa6]
theorem Qt1 (p:List Stp) (s:Stp):Qbq (p++[s])=s.2:=by simp[Qbq]
theorem noneM_true {m:Mk}:Qbf m=true↔m=([],0):=by
 rcases m with⟨p,c⟩
 simp[Qbf]
theorem Qhm {a b:Mk} {site clock many:Int} (h:Qa5 a b site clock many=0):
  (Qbf a=true∨Qaf a=0)∧(Qbf b=true∨Qaf b=0)∧(0≤site∧site≤4)∧(1≤clock∧clock≤10000)∧(1≤many∧many≤60)∧clock+many≤10001∧
  (Qbf a=false→Qbf b=false→Qau a b= -1∧a.1≠b.1)∧a.1.length≤8∧b.1.length≤8:=by
 unfold Qa5 at h;split at h
 ·rename_i h1;exact absurd h h1.1
 split at h
 ·rename_i h1;exact absurd h h1.1
 split at h
 ·omega
 split at h
 ·omega
 split at h
 ·omega
 rename_i h1 h2 h3 h4 h5
 refine⟨?_,?_,by omega,by omega,by omega,by omega,fun ha hb=> ?_,by omega,by omega⟩
 ·cases hn:Qbf a with
  |true=>exact .inl rfl
  |false=>right;apply Classical.byContradiction;intro h6;exact h1 ⟨h6,hn⟩
 ·cases hn:Qbf b with
  |true=>exact .inl rfl
  |false=>right;apply Classical.byContradiction;intro h6;exact h2 ⟨h6,hn⟩
 ·have:=Qbw a b;refine⟨?_,fun e=>h4 ⟨⟨ha,hb⟩,.inr e⟩⟩;have:¬0≤Qau a b:=fun e=>h4 ⟨⟨ha,hb⟩,.inl e⟩
  omega
theorem Qli (a:Mk) (h:Qbf a=true∨Qaf a=0):(∀s∈a.1,okS s)∧(a.1≠[]→Qa6 a.1≠0)∧(Qbf a=false→a.1≠[]):=by
 rcases h with h|h
 ·have:=noneM_true.1 h;subst this;simp[Qbf]
 ·obtain⟨_,h2,h3,h4,_⟩:=checkM_ok.1 h;exact⟨any_badS.1 h3,fun _=>h4,fun _=>h2⟩
theorem Qp4 {a b:Mk} {site clock many:Int} (h:Qa5 a b site clock many=0):
  Qi4 a b site clock many (Qdk a b site clock many)=true:=by
 obtain⟨ha,hb,hs,hc,hm,hcm,hab,hla,hlb⟩:=Qhm h;obtain⟨ra,_,na⟩:=Qli a ha;obtain⟨rb,lb,nb⟩:=Qli b hb;have hord:b.1≠[]→Qcq a.1 b.1= -1:=by
  intro hne;cases hna:Qbf a with
  |true=>
   have:=noneM_true.1 hna;subst this;cases hb1:b.1 with
   |nil=>exact absurd hb1 hne
   |cons x y=>simp[Qcq]
  |false=>
   cases hnb:Qbf b with
   |true=>have:=noneM_true.1 hnb;subst this;simp at hne
   |false=>
    obtain⟨h1,h2⟩:=hab hna hnb;unfold Qau at h1;split at h1
    ·rename_i h3;exact absurd (ordP_zero.1 h3) h2
    ·exact h1
 obtain⟨hg1,hg2,hg3,hg4⟩:=Qtq a.1 b.1 site (fun s hs=>⟨(ra s hs).1,(ra s hs).2.1⟩) (fun s hs=>⟨(rb s hs).1,(rb s hs).2.1⟩) lb hord;have key:∃g:Gap,Qcz a b site many=g∧1≤g.least∧g.least+many≤201∧(g.path.length+1:Int)≤Qys a b many∧(∀s∈g.path,okS s)∧
   ∀(d:Int) (u:List Stp),g.least≤d→d<g.least+many→Qyg (Qdp a.1 b.1 site) (g.path++(d,site)::u):=by
  have okp:∀s∈(Qdp a.1 b.1 site).path,okS s:=fun s hs'=>by
   rcases hg3 s hs' with h1|h1|h1
   ·exact ra s h1
   ·exact rb s h1
   ·subst h1;exact⟨by simp,by simp,hs.1,hs.2⟩
  by_cases hw:(Qdp a.1 b.1 site).most-(Qdp a.1 b.1 site).least+1<many
  ·refine⟨⟨(Qdp a.1 b.1 site).path++[((Qdp a.1 b.1 site).least,site)],1,200⟩,by simp[Qcz,hw],by simp,by simp;omega,?_,?_,?_⟩
   ·unfold Qys;rw[if_pos (by omega)];simp only[List.length_append,List.length_cons,List.length_nil];omega
   ·intro s hs';rcases List.mem_append.1 hs' with h1|h1
    ·exact okp s h1
    ·have:s=((Qdp a.1 b.1 site).least,site):=by simpa using h1
     subst this;exact⟨by simp;omega,by simp;omega,hs.1,hs.2⟩
   ·intro d u _ _;exact⟨_,site,(d,site)::u,Int.le_refl _,by omega,by simp⟩
  ·refine⟨Qdp a.1 b.1 site,by simp[Qcz,hw],hg1.1,by omega,?_,okp,fun d u h1 h2=>⟨d,site,u,h1,by omega,rfl⟩⟩;unfold Qys;split<;>omega
 obtain⟨g,hg,hl1,hl2,hdeep,hok,hin⟩:=key;have hget:∀i:Nat,i<many.toNat→(Qdk a b site clock many).getD i ([],0)=(g.path++[(g.least+(i:Int),site)],clock+(i:Int)):=by
  intro i hi;unfold Qdk;rw[hg];simp[List.getD,List.getElem?_map,List.getElem?_range hi]
 have hlen:(Qdk a b site clock many).length=many.toNat:=by simp[Qdk]
 unfold Qi4;rw[hlen];simp only[Bool.and_eq_true,decide_eq_true_eq,List.all_eq_true,List.mem_range];refine⟨by omega,fun i hi=> ?_⟩;unfold Vdn;rw[hget i hi];have hgap:Qyg (Qdp a.1 b.1 site) (g.path++[(g.least+(i:Int),site)]):=hin _ [] (by omega) (by omega);obtain⟨h1,h2⟩:=hg4 _ hgap;simp only[Bool.and_eq_true,decide_eq_true_eq,Bool.or_eq_true];refine⟨⟨⟨⟨⟨⟨?_,by simp⟩,?_⟩,?_⟩,?_⟩,?_⟩,?_⟩
 ·rw[checkM_ok];refine⟨?_,by simp,?_,by rw[Qsc];simp;omega,by simp;omega,by simp;omega⟩
  ·have:Qys a b many≤10:=by unfold Qys;split<;>omega
   simp only[List.length_append,List.length_cons,List.length_nil];omega
  ·rw[any_badS];intro s hs';rcases List.mem_append.1 hs' with h3|h3
   ·exact hok s h3
   ·have:s=(g.least+(i:Int),site):=by simpa using h3
    subst this;exact⟨by simp;omega,by simp;omega,hs.1,hs.2⟩
 ·rw[Qt1]
 ·simp only[List.length_append,List.length_cons,List.length_nil];omega
 ·by_cases h0:i=0
  ·exact .inl h0
  ·right
   rw[hget (i-1) (by omega)];unfold Qau;have:Qcq (g.path++[(g.least+((i-1:Nat):Int),site)]) (g.path++[(g.least+(i:Int),site)])= -1:=Qfm (by simp;omega);simp[this]
 ·cases hna:Qbf a with
  |true=>exact .inl rfl
  |false=>right;unfold Qau;simp[h1]
 ·cases hnb:Qbf b with
  |true=>exact .inl rfl
  |false=>right;unfold Qau;simp[h2 (nb hnb)]
end Cp
